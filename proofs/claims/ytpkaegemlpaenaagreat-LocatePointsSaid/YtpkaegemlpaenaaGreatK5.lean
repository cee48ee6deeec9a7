/- Texts that the proof needs, part 5. -/
import Derived.Test.YtpkaegemlpaenaaGreatK4
set_option linter.unusedVariables false
set_option linter.unusedSimpArgs false
namespace Go.Proofs.YtpkaegemlpaenaaGreat
open Bk Go Tryz
set_option maxRecDepth 10000
set_option maxHeartbeats 1000000
attribute [local irreducible] GL GC GQ W OpV
section
variable{w0:World}{h0:Mem}(hs:MLe h0 (mem w0))
include hs
theorem cS{k:Nat}{vp:Value}{p:Tq}(rp:(tPt k).Is h0 vp p):
 Calls Tryz.prog 185 #[vp] w0 (Ret w0 h0 (λh r=>(tPt (k+1)).Is h r (zZ p))):=by
 refine cb1 8 vp func185 hs ?_;refine go2 ?_;refine nB rp λb1 ab H=>(nA (ρ:=(tPt (k+1))) (X:=zT) yN (xN (yH oM)) λb2 aa J=>(go5 ?_));refine lX (xB yC (Pc.tx pH) H) λv4 r4=>(go1 ?_);refine lX (xB yC (Pc.ty pH) H) λv6 Z=>(lX (xV (ρ:=(tPt (k+1))) (wD (ps':=[(0,_),(1,_)]) underlying31 yN I I sizeOf29 e4z I (xN (yH oM)) (zD I (Pc.tx (Pc.here _)) (r4.le (Le.q (l:=k+1) oM)) (zD I (Pc.ty (Pc.here _)) (Z.le (Le.q (l:=k+1) oM)) zO)))) λv7 U=>(yB (A:=[]) (uB sizeOf31 pH J U) λM G=>(go3 ?_)));refine wT (kE (t:=2) zH mh0 I G) ?_;intro O C D;refine yW (λE S=>zW I C E S) ?_;exact D
theorem jD{k:Nat}{va:Value}{a:Tq}(ra:(tPt k).Is h0 va a){vb:Value}{b:Tq}(rb:(tPt k).Is h0 vb b)(hcd0:k<=2000000000):
 Calls Tryz.prog 174 #[va,vb] w0 (Ret w0 h0 (λ_ r=>r=vB ((pr a 0 1)=(pr b 0 1)))):=by
 refine cb2 17 va vb func174 hs ?_;refine go2 ?_;refine nB ra λb2 ac D=>(nB rb λb3 ab C=>(go6 ?_));refine lX (xB yC (Pc.tx pH) D) λv6 r6=>(go1 ?_);refine lX (xB yC (Pc.tx pH) C) λv8 r8=>(cL (ev2 I I) call73 (λw hs=>tY hs r6 r8 oM) λv9 h1 ah r9=>?_);obtain rfl:v9=vB (a.x=b.x):=r9;refine qB (ι:=Mem) 7 (λm_=>MLe h1 m_) (λ_=>[(16,vB ((a.x=b.x)/\(a.y=b.y)))]) (λ_=>[.var b3 31 ab,.var b2 31 ac]) (λm_=>m_) ?_ ?_
 ·
  refine zY (a.x=b.x) (λH=>?_) (λH=>?_)
  ·
   refine gT H I (go3 ?_);refine lX (xB yC (Pc.ty pH) D) λae U=>(go3 ?_);refine lX (xB yC (Pc.ty pH) C) λad O=>(go1 ?_);refine cL (ev2 I I) call73 (λw hs=>tY hs U O oM) λJ h2 aa M=>?_;obtain rfl:J=vB (a.y=b.y):=M;refine go2 ?_;refine zR h2 aa ⟨?_,trivial⟩ I I;exact congrArg some (xC H)
  refine gF H I (go7 ?_);refine zR h1 (MLe.refl _) ⟨?_,trivial⟩ I I;exact congrArg some (xD H)
 intro Z G;refine tZ ?_;refine go4 ?_;refine zC I I ?_
 first|exact kA (by rw[zVV];exact Iff.rfl)|exact(xK (by rw[zVV];exact Iff.rfl)).symm|exact(yG (by rw[zVV];exact Iff.rfl)).symm
theorem pM{k:Nat}{va:Value}{a:Tq}(ra:(tPt k).Is h0 va a){vb:Value}{b:Tq}(rb:(tPt k).Is h0 vb b)(hcd0:k<=2000000000):
 Calls Tryz.prog 200 #[va,vb] w0 (Ret w0 h0 (λ_ r=>r=vB (lx (pr a 0 1) (pr b 0 1)))):=by
 refine cb2 21 va vb func200 hs ?_;refine go2 ?_;refine nB ra λb2 aj G=>(nB rb λb3 ai D=>(go7 ?_));refine lX (xB yC (Pc.tx pH) G) λv7 r7=>(go1 ?_);refine lX (xB yC (Pc.tx pH) D) λv9 r9=>(cL (ev2 I I) call17 (λw hs=>fZ hs r7 r9 oM) λJ h1 ah Z=>?_);obtain rfl:J=vI (xT a.x b.x):=Z;have ab:=qV a.x b.x;refine gc9 (λC=>?_) λC=>?_
 ·
  refine go9 ?_;refine zC I I ?_;exact kA (yGP C)
 refine go5 ?_;refine lX (xB yC (Pc.ty pH) G) λad U=>(go1 ?_);refine lX (xB yC (Pc.ty pH) D) λac O=>(cL (ev2 I I) call17 (λw hs=>fZ hs U O oM) λH h2 ae M=>?_);obtain rfl:H=vI (xT a.y b.y):=M;have aa:=qV a.y b.y;refine go5 ?_;refine zC I I ?_;exact kA (yGO C)
theorem pO{k:Nat}{vl:Value}{l:(List Tq)}(rl:(tLs k).Is h0 vl l)(hcd0:k<=100000)(hcd1:l.length<=1000):
 Calls Tryz.prog 131 #[vl] w0 (Ret w0 h0 (λh r=>(rpQ 1000000000).Is h r (uQ l 0 1 l.length))):=by
 refine cb1 40 vl func131 hs ?_;refine go2 ?_;refine nA (ρ:=(rpQ 1)) (X:=(0:Rat)) xU (yH dC) λb2 bi ar=>(go4 ?_);refine lX (xV (ρ:=(rpQ 1)) (wE (ps':=[]) underlying29 xU I I (qE underlying29) trivial I (yH dC) zO)) λv7 r7=>(nA (ρ:=(rpQ 1)) (X:=(0:Rat)) xU (yH dC) λb3 cg aq=>(yB (A:=[]) (uB sizeOf29 pH aq r7) λan ak=>(go9 ?_)));refine gcL (ι:=Nat×Nat×List Value×Mem) (λ(m,q,H,ma)=>(MLe h0 ma/\((rpQ q).R ma H (uQ l 0 1 m)/\m<=l.length/\q<=(4*k+9)*m+1),[(0,vl),(2,vP b2 0),(3,vP b3 0),(4,vI ↑m)],[.var b3 29 H,.var b2 29 bi],ma,l.length-m)) (0,1,an,h0) ?_ ?_
 · exact⟨mle,ak,by omega,by omega⟩
 rintro⟨m,q,H,ma⟩ ⟨bk,C,cb,ca⟩
 refine yX ?_;have be:=Nat.mul_le_mul_left (4*k+9) (show m<=1000 by omega);refine gc9 (λam=>?_) λam=>?_
 ·
  refine go5 ?_;refine zK 16 _ [(12,(5,31,[.bool false,.slice none 0 0,.slice none 0 0,.bool false,.slice none 0 0,.slice none 0 0,.bool false,.slice none 0 0,.slice none 0 0])),(13,(6,31,[.bool false,.slice none 0 0,.slice none 0 0,.bool false,.slice none 0 0,.slice none 0 0,.bool false,.slice none 0 0,.slice none 0 0]))] [(0,.q),(1,.q),(2,.q),(3,.q),(4,.q),(5,.q),(6,.q),(7,.q),(8,.q),(9,.q),(10,.q),(11,.q),(12,.a),(13,.a),(14,.c),(15,.c)] zX (qZ.cons I I (uJ yN I I) (qZ.cons I I (uJ yN I I) qZ.nil)) (wJ zob) (uK I I (uK I I kL)) (λr hr=>hr) (go2 ?_);refine wX I (xI zT m underlying35 zH rl) λbz bd=>(wX I (xA zH bd) λbx bc=>(go4 ?_));refine w_q I (λh' L' hh hR=>uL underlying35 I (rl.up.mono hh)) I (wB I (λ_ _=>wA I I oM oM) I (wX I (xI zT ((m+1)%l.length) underlying35 zH rl (hi:=by exact Nat.mod_lt _ oM)) λbw bb=>(wX I (xA zH bb) λbv ba=>?_)));refine w_a I I (λb5=>?_);have ap:(tPt 1).R ma [.bool false,.slice none 0 0,.slice none 0 0,.bool false,.slice none 0 0,.slice none 0 0,.bool false,.slice none 0 0,.slice none 0 0] zT:=(xN (yH dC));refine w_a I I (λb6=>?_);have ao:(tPt 1).R ma [.bool false,.slice none 0 0,.slice none 0 0,.bool false,.slice none 0 0,.slice none 0 0,.bool false,.slice none 0 0,.slice none 0 0] zT:=(xN (yH dC));refine w_c I ?_;have aj:=(Le.t (Le.q (l:=k+1) oM)).R ap;refine sU (A:=[_]) (uB sizeOf31 pH aj (bc.le (Le.t (Le.q (l:=k+1) oM)))) (xJ zof) λbh G=>?_;refine w_c I ?_;have U:=(Le.t (Le.q (l:=k+1) oM)).R ao;refine sU (A:=[]) (uB sizeOf31 pH U (ba.le (Le.t (Le.q (l:=k+1) oM)))) (xJ zof) λbg D=>(go2 ?_);refine zK 13 _ [] [(0,.q),(1,.q),(2,.q),(3,.q),(4,.q),(6,.q),(7,.q),(8,.q),(9,.q),(5,.c),(10,.c),(11,.c),(12,.c),(13,.t)] zX nX (wJ zob) nX (λr hr=>hr) (wX I (xB yC pH C) λbu az=>(go1 ?_));refine wX I (xB yC (Pc.tx pH) G) λbt ay=>(go1 ?_);refine wX I (xB yC (Pc.ty pH) D) λbs ax=>(go1 ?_);refine wX I (xB yC (Pc.tx pH) D) λbq aw=>(go1 ?_);refine wX I (xB yC (Pc.ty pH) G) λbp av=>?_;refine w_c I (sC (ev2 I I) call53 (λw hs=>qS hs ay ax oM) λbr h1 cf ah=>?_);replace ah:=Rp.Is.le ah (Le.q (l:=2*k+2) oM);refine w_c I (sC (ev2 I I) call53 (λw hs=>qS hs aw.up av.up oM) λbo h2 ce ae=>?_);replace ae:=Rp.Is.le ae (Le.q (l:=2*k+2) oM);refine w_c I (sC (ev2 I I) call55 (λw hs=>gP hs ah.up ae oM) λbn h3 cd ad=>?_);replace ad:=Rp.Is.le ad (Le.q (l:=4*k+5) oM);refine w_c I (sC (ev2 I I) call45 (λw hs=>rW hs az.up ad oM) λbm h4 cc ac=>?_);replace ac:=Rp.Is.le ac (Le.q (l:=4*k+q+6) oM);have O:=(Le.q (l:=4*k+q+6) oM).R C;refine yJ (A:=[_,_]) I (uB sizeOf29 pH O ac) λai ab=>(go8 ?_);refine yM (A:=[]) (yM (A:=[]) ?_);refine gqL ((m+1),(q+(4*k+9)),ai,h4) ?_ ?_
  · exact⟨mle,(Rp.castR (Le.R (Le.q (l:=q+(4*k+9)) oM) ab) I),by omega,by rw[Nat.mul_succ];omega⟩
  omega
 have em:m=l.length:=by omega
 have be:=Nat.mul_le_mul_left (4*k+9) (show m<=1000 by omega);refine go7 ?_;refine lX (xB yC pH C) λbl au=>?_;have M:=(Le.q (l:=q+1) oM).R ar;refine yB (A:=[_]) (uB sizeOf29 pH M (au.le (Le.q (l:=q+1) oM))) λbf aa=>(go3 ?_);refine wT (kE (t:=2) yC mh1 I aa) ?_;intro bj J Z;refine yW (λE S=>zW I J E S) ?_;exact(Rp.Is.cast (Rp.Is.le Z (Le.q (l:=1000000000) oM)) (by rw[em]))
theorem tM{k:Nat}{va:Value}{a:Tq}(ra:(tPt k).Is h0 va a){vb:Value}{b:Tq}(rb:(tPt k).Is h0 vb b){vc:Value}{c:Tq}(rc:(tPt k).Is h0 vc c)(hcd0:k<=10000):
 Calls Tryz.prog 186 #[va,vb,vc] w0 (Ret w0 h0 (λ_ r=>r=vI (orZ (pr a 0 1) (pr b 0 1) (pr c 0 1)))):=by
 refine cb3 13 va vb vc func186 hs ?_;refine go2 ?_;refine nB ra λb3 am M=>(nB rb λb4 ak J=>(nB rc λb5 aj H=>(go5 ?_)));refine lX (xB zH pH M) λv7 r7=>(lX (xB zH pH J) λv8 r8=>(lX (xB zH pH H) λv9 r9=>(zI (zL (ρ:=(tPt (k+1))) (m:=3) (xs:=[a,b,c]) (ps':=[(0,_),(1,_),(2,_)]) underlying35 yN I I I (xN (yH oM)) e6z (zD I (Pc.arr (Pc.here _) zT 0 dC) (r7.le (Le.t (Le.q (l:=k+1) oM))) (zD I (Pc.arr (Pc.here _) zT 1 dC) (r8.le (Le.t (Le.q (l:=k+1) oM))) (zD I (Pc.arr (Pc.here _) zT 2 dC) (r9.le (Le.t (Le.q (l:=k+1) oM))) zO))) (show 3*9<=16777216 from by decide) nP) I I I ?_)))
 rintro ac ad ⟨aa,rfl,D⟩
 refine zS (A:=[]) (ρ:=(tPt (k+1))) D ?_;intro h1 ai C;refine cL (ev1 I) call131 (λw hs=>pO hs C oM (by first|omega|exact(by decide:3<=1000))) λab h2 ah U=>(cL (ev1 I) call48 (λw hs=>vM hs U dC) λG h3 ae O=>?_);obtain rfl:G=vI (yR (uQ [a,b,c] 0 1 [a,b,c].length)):=O;have Z:=yV (uQ [a,b,c] 0 1 [a,b,c].length);refine go4 ?_;refine zC I I ?_;exact congrArg vI (zZ0 a b c)
theorem oD{k:Nat}{va:Value}{a:Tq}(ra:(tPt k).Is h0 va a){vb:Value}{b:Tq}(rb:(tPt k).Is h0 vb b){vp:Value}{p:Tq}(rp:(tPt k).Is h0 vp p)(hcd0:k<=10000):
 Calls Tryz.prog 184 #[va,vb,vp] w0 (Ret w0 h0 (λ_ r=>r=vB (onS (pr a 0 1) (pr b 0 1) (pr p 0 1)))):=by
 refine cb3 29 va vb vp func184 hs ?_;refine go2 ?_;refine nB ra λb3 bi Z=>(nB rb λb4 bh U=>(nB rp λb5 ak ad=>(go3 ?_)));refine jG (ι:=List Value×List Value×Mem) (λ(D,C,m1)=>MLe h0 m1/\((tPt k).R m1 D (loT a b 0 1)/\(tPt k).R m1 C (hiT a b 0 1)/\True)) (λ(D,C,m1)=>[(3,vP b3 0),(4,vP b4 0),(5,vP b5 0)]) (λ(D,C,m1)=>[.var b5 31 ak,.var b4 31 C,.var b3 31 D]) (λ(D,C,m1)=>m1) ?_ ?_
 ·
  refine go2 ?_;refine lX (xB zH pH U) λv7 r7=>(lX (xB zH pH Z) λv8 r8=>(cL (ev2 I I) call200 (λw hs=>pM hs r7 r8 oM) λv9 h1 ah r9=>?_));obtain rfl:v9=vB (lx (pr b 0 1) (pr a 0 1)):=r9;refine gc2 (λO=>?_) λO=>?_
  ·
   refine go1 ?_;refine lX (xB zH pH U) λbs bf=>(lX (xB zH pH Z) λbr be=>(yB (A:=[_,_]) (uB sizeOf31 pH Z bf) λaj ac=>(yB (A:=[_]) (uB sizeOf31 pH U be) λai ab=>(go1 ?_))));refine zR (aj,ai,h1) ?_ e3z I I;refine⟨ah,?_⟩;refine⟨(Rp.castR ac (if_pos O).symm),(Rp.castR ab (if_pos O).symm),?_⟩
   trivial
  refine go1 ?_;refine zR (bi,bh,h1) ?_ e3z I I;refine⟨ah,?_⟩;refine⟨(Rp.castR Z.up (if_neg O).symm),(Rp.castR U.up (if_neg O).symm),?_⟩
  trivial
 rintro⟨D,C,m1⟩ ⟨bj,aa⟩
 refine yX ?_;obtain⟨H,G,aa⟩:=aa;refine go2 ?_;refine lX (xB zH pH H) λbq bd=>(lX (xB zH pH G) λbp bc=>(lX (xB zH pH ad) λbo bb=>(cL (ev3 I I I) call186 (λw hs=>tM hs bd bc bb oM) λar h1 ah ba=>?_)));obtain rfl:ar=vI (orZ (pr (loT a b 0 1) 0 1) (pr (hiT a b 0 1) 0 1) (pr p 0 1)):=ba;have bg:=tJ (pr (loT a b 0 1) 0 1) (pr (hiT a b 0 1) 0 1) (pr p 0 1);refine go1 ?_;refine qB (ι:=Mem) 6 (λm_=>MLe h1 m_) (λ_=>[(22,vB (((orZ (pr (loT a b 0 1) 0 1) (pr (hiT a b 0 1) 0 1) (pr p 0 1))=(0:Int))/\(¬(lx (pr p 0 1) (pr (loT a b 0 1) 0 1))))),(4,vP b4 0),(5,vP b5 0)]) (λ_=>[.var b5 31 ak,.var b4 31 C,.var b3 31 D]) (λm_=>m_) ?_ ?_
 ·
  refine zY ((orZ (pr (loT a b 0 1) 0 1) (pr (hiT a b 0 1) 0 1) (pr p 0 1))=(0:Int)) (λM=>?_) (λM=>?_)
  ·
   refine gT M I (go1 ?_);refine lX (xB zH pH ad) λbn az=>(go1 ?_);refine lX (xB zH pH H) λbm ay=>(go1 ?_);refine cL (ev2 I I) call200 (λw hs=>pM hs az ay oM) λaq h2 ae ax=>?_;obtain rfl:aq=vB (lx (pr p 0 1) (pr (loT a b 0 1) 0 1)):=ax;refine go4 ?_;refine zR h2 ae ⟨?_,I,I,trivial⟩ I I;exact congrArg some (xC M)
  refine gF M I (go6 ?_);refine zR h1 (MLe.refl _) ⟨?_,I,I,trivial⟩ I I;exact congrArg some (xD M)
 intro J an;refine tZ ?_;refine qB (ι:=Mem) 6 (λm_=>MLe J m_) (λ_=>[(28,vB ((((orZ (pr (loT a b 0 1) 0 1) (pr (hiT a b 0 1) 0 1) (pr p 0 1))=(0:Int))/\(¬(lx (pr p 0 1) (pr (loT a b 0 1) 0 1))))/\(¬(lx (pr (hiT a b 0 1) 0 1) (pr p 0 1)))))]) (λ_=>[.var b5 31 ak,.var b4 31 C,.var b3 31 D]) (λm_=>m_) ?_ ?_
 ·
  refine zY (((orZ (pr (loT a b 0 1) 0 1) (pr (hiT a b 0 1) 0 1) (pr p 0 1))=(0:Int))/\(¬(lx (pr p 0 1) (pr (loT a b 0 1) 0 1)))) (λM=>?_) (λM=>?_)
  ·
   refine gT M I (go1 ?_);refine lX (xB zH pH G) λbl aw=>(go1 ?_);refine lX (xB zH pH ad) λbk av=>(go1 ?_);refine cL (ev2 I I) call200 (λw hs=>pM hs aw av oM) λap h2 ae au=>?_;obtain rfl:ap=vB (lx (pr (hiT a b 0 1) 0 1) (pr p 0 1)):=au;refine go4 ?_;refine zR h2 ae ⟨?_,trivial⟩ I I;exact congrArg some (xC M)
  refine gF M I (go6 ?_);refine zR J (MLe.refl _) ⟨?_,trivial⟩ I I;exact congrArg some (xD M)
 intro ao am;refine tZ ?_;refine go4 ?_;refine zC I I ?_
 first|exact kA (by rw[<-yF6];grind)|exact(xK (by rw[<-yF6];grind)).symm|exact(yG (by rw[<-yF6];grind)).symm
theorem zSY{k:Nat}{va:Value}{a:Tq}(ra:(tPt k).Is h0 va a){vb:Value}{b:Tq}(rb:(tPt k).Is h0 vb b){vc:Value}{c:Tq}(rc:(tPt k).Is h0 vc c){vd:Value}{d:Tq}(rd:(tPt k).Is h0 vd d)(hcd0:k<=9000):
 Calls Tryz.prog 201 #[va,vb,vc,vd] w0 (Ret w0 h0 (λ_ r=>r=vI (zDH (pr a 0 1) (pr b 0 1) (pr c 0 1) (pr d 0 1)))):=by
 refine jI (n:=72) (e:=[(0,va),(1,vb),(2,vc),(3,vd)]) (vs:=[va,vb,vc,vd]) func201 rfl rfl (bL rfl) hs e4z (go2 ?_);refine nB ra λb4 ad ax=>(nB rb λb5 ac aw=>(nB rc λb6 ab ap=>(nB rd λb7 aa ao=>(go4 ?_))));refine zK 6 _ [(2,(9,31,[.bool false,.slice none 0 0,.slice none 0 0,.bool false,.slice none 0 0,.slice none 0 0,.bool false,.slice none 0 0,.slice none 0 0])),(3,(10,31,[.bool false,.slice none 0 0,.slice none 0 0,.bool false,.slice none 0 0,.slice none 0 0,.bool false,.slice none 0 0,.slice none 0 0]))] [(0,.q),(1,.q),(2,.a),(3,.a),(4,.c),(5,.c)] zX (qZ.cons I I (uJ yN I I) (qZ.cons I I (uJ yN I I) qZ.nil)) zob (uK I I (uK I I kL)) (λr hr=>hr) (wX I (xB zH pH ax) λfl eb=>(wX I (xB zH pH aw) λfk ea=>?_));refine w_a I I (λb9=>?_);have cd:(tPt (k+1)).R h0 [.bool false,.slice none 0 0,.slice none 0 0,.bool false,.slice none 0 0,.slice none 0 0,.bool false,.slice none 0 0,.slice none 0 0] zT:=(xN (yH oM));refine w_a I I (λM=>?_);have bj:(tPt (k+1)).R h0 [.bool false,.slice none 0 0,.slice none 0 0,.bool false,.slice none 0 0,.slice none 0 0,.bool false,.slice none 0 0,.slice none 0 0] zT:=(xN (yH oM));refine w_c I (sU (A:=[_]) (uB sizeOf31 pH cd (eb.le (Le.t (Le.q (l:=k+1) oM)))) (xJ zof) λbf ah=>?_);refine w_c I (sU (A:=[]) (uB sizeOf31 pH bj (ea.le (Le.t (Le.q (l:=k+1) oM)))) (xJ zof) λav ae=>(go2 ?_));refine jG (ι:=List Value×Mem) (λ(C,m1)=>MLe h0 m1/\((tPt (k+1)).R m1 C (mxT a c 0 1)/\True)) (λ(C,m1)=>[(4,vP b4 0),(5,vP b5 0),(6,vP b6 0),(7,vP b7 0),(9,vP b9 0),(10,vP M 0)]) (λ(C,m1)=>[.var M 31 av,.var b9 31 C,.var b7 31 aa,.var b6 31 ab,.var b5 31 ac,.var b4 31 ad]) (λ(C,m1)=>m1) ?_ ?_
 ·
  refine go2 ?_;refine lX (xB zH pH ah) λfj dz=>(lX (xB zH pH ap) λfi dy=>(cL (ev2 I I) call200 (λw hs=>pM hs dz (dy.le (Le.t (Le.q (l:=k+1) oM))) oM) λcc h1 am dx=>?_));obtain rfl:cc=vB (lx (pr a 0 1) (pr c 0 1)):=dx;refine gc2 (λau=>?_) λau=>?_
  ·
   refine go1 ?_;refine lX (xB zH pH ap) λfh dw=>(yB (A:=[_]) (uB sizeOf31 pH ah (dw.le (Le.t (Le.q (l:=k+1) oM)))) λbe az=>(go1 ?_));refine zR (be,h1) ?_ e6z I I;refine⟨am,?_⟩;refine⟨(Rp.castR az (if_pos au).symm),?_⟩
   trivial
  refine go1 ?_;refine zR (bf,h1) ?_ e6z I I;refine⟨am,?_⟩;refine⟨(Rp.castR ah.up (if_neg au).symm),?_⟩
  trivial
 rintro⟨C,m1⟩ ⟨ed,Z⟩
 refine yX ?_;obtain⟨G,Z⟩:=Z;refine jG (ι:=List Value×Mem) (λ(D,m2)=>MLe m1 m2/\((tPt (k+1)).R m2 D (mnT b d 0 1)/\True)) (λ(D,m2)=>[(4,vP b4 0),(5,vP b5 0),(6,vP b6 0),(7,vP b7 0),(9,vP b9 0),(10,vP M 0)]) (λ(D,m2)=>[.var M 31 D,.var b9 31 C,.var b7 31 aa,.var b6 31 ab,.var b5 31 ac,.var b4 31 ad]) (λ(D,m2)=>m2) ?_ ?_
 ·
  refine go2 ?_;refine lX (xB zH pH ao) λfg dv=>(lX (xB zH pH ae) λff du=>(cL (ev2 I I) call200 (λw hs=>pM hs (dv.le (Le.t (Le.q (l:=k+1) oM))) du oM) λcb h1 am dt=>?_));obtain rfl:cb=vB (lx (pr d 0 1) (pr b 0 1)):=dt;refine gc2 (λar=>?_) λar=>?_
  ·
   refine go1 ?_;refine lX (xB zH pH ao) λfe dr=>(yB (A:=[]) (uB sizeOf31 pH ae (dr.le (Le.t (Le.q (l:=k+1) oM)))) λbd ay=>(go1 ?_));refine zR (bd,h1) ?_ e6z I I;refine⟨am,?_⟩;refine⟨(Rp.castR ay (if_pos ar).symm),?_⟩
   trivial
  refine go1 ?_;refine zR (av,h1) ?_ e6z I I;refine⟨am,?_⟩;refine⟨(Rp.castR ae.up (if_neg ar).symm),?_⟩
  trivial
 rintro⟨D,m2⟩ ⟨ec,Z⟩
 refine yX ?_;obtain⟨an,Z⟩:=Z;refine go4 ?_;refine lX (xB zH pH an) λfd dq=>(lX (xB zH pH G) λfc dp=>(cL (ev2 I I) call200 (λw hs=>pM hs dq dp oM) λca h1 am dn=>?_));obtain rfl:ca=vB (lx (pr (mnT b d 0 1) 0 1) (pr (mxT a c 0 1) 0 1)):=dn;refine gc3 (λbo=>?_) λbo=>?_
 ·
  refine go8 ?_;refine zC I I ?_;refine congrArg vI ?_;rw[<-zF5 I I];unfold zF6;grind
 refine go2 ?_;refine lX (xB zH pH G) λfb dm=>(lX (xB zH pH an) λfa dl=>(cL (ev2 I I) call174 (λw hs=>jD hs dm dl oM) λbz h2 fo dk=>?_));obtain rfl:bz=vB ((pr (mxT a c 0 1) 0 1)=(pr (mnT b d 0 1) 0 1)):=dk;refine gc4 (λbn=>?_) λbn=>?_
 ·
  refine go8 ?_;refine zC I I ?_;refine congrArg vI ?_;rw[<-zF5 I I];unfold zF6;grind
 refine go2 ?_;refine lX (xB zH pH G) λez dj=>(lX (xB zH pH ax) λey di=>(cL (ev2 I I) call174 (λw hs=>jD hs dj (di.le (Le.t (Le.q (l:=k+1) oM))) oM) λbx h3 fm dh=>?_));obtain rfl:bx=vB ((pr (mxT a c 0 1) 0 1)=(pr a 0 1)):=dh;refine qB (ι:=Mem) 5 (λJ=>MLe h3 J) (λ_=>[(38,vB (((pr (mxT a c 0 1) 0 1)=(pr a 0 1))\/((pr (mxT a c 0 1) 0 1)=(pr b 0 1)))),(4,vP b4 0),(5,vP b5 0),(6,vP b6 0),(7,vP b7 0),(9,vP b9 0)]) (λ_=>[.var M 31 D,.var b9 31 C,.var b7 31 aa,.var b6 31 ab,.var b5 31 ac,.var b4 31 ad]) (λJ=>J) ?_ ?_
 ·
  refine zY ((pr (mxT a c 0 1) 0 1)=(pr a 0 1)) (λH=>?_) (λH=>?_)
  ·
   refine gT H I (go5 ?_);refine zR h3 (MLe.refl _) ⟨?_,I,I,I,I,I,trivial⟩ I I;exact congrArg some (vH H)
  refine gF H I (go1 ?_);refine lX (xB zH pH G) λew df=>(go1 ?_);refine lX (xB zH pH aw) λev de=>(go1 ?_);refine cL (ev2 I I) call174 (λw hs=>jD hs df (de.le (Le.t (Le.q (l:=k+1) oM))) oM) λbw h4 U dd=>?_;obtain rfl:bw=vB ((pr (mxT a c 0 1) 0 1)=(pr b 0 1)):=dd;refine go2 ?_;refine zR h4 U ⟨?_,I,I,I,I,I,trivial⟩ I I;exact congrArg some (vJ H)
 intro ak bi;refine tZ ?_;refine qB (ι:=Mem) 10 (λJ=>MLe ak J) (λ_=>[(48,vB ((((pr (mxT a c 0 1) 0 1)=(pr a 0 1))\/((pr (mxT a c 0 1) 0 1)=(pr b 0 1)))/\(((pr (mxT a c 0 1) 0 1)=(pr c 0 1))\/((pr (mxT a c 0 1) 0 1)=(pr d 0 1))))),(4,vP b4 0),(5,vP b5 0),(6,vP b6 0),(7,vP b7 0),(9,vP b9 0)]) (λ_=>[.var M 31 D,.var b9 31 C,.var b7 31 aa,.var b6 31 ab,.var b5 31 ac,.var b4 31 ad]) (λJ=>J) ?_ ?_
 ·
  refine zY (((pr (mxT a c 0 1) 0 1)=(pr a 0 1))\/((pr (mxT a c 0 1) 0 1)=(pr b 0 1))) (λH=>?_) (λH=>?_)
  ·
   refine gT H I (go1 ?_);refine lX (xB zH pH G) λeu dc=>(go1 ?_);refine lX (xB zH pH ap) λes db=>(go1 ?_);refine cL (ev2 I I) call174 (λw hs=>jD hs dc (db.le (Le.t (Le.q (l:=k+1) oM))) oM) λbv h4 U da=>?_;obtain rfl:bv=vB ((pr (mxT a c 0 1) 0 1)=(pr c 0 1)):=da;refine qB (ι:=Mem) 5 (λJ=>MLe h4 J) (λ_=>[(47,vB (((pr (mxT a c 0 1) 0 1)=(pr c 0 1))\/((pr (mxT a c 0 1) 0 1)=(pr d 0 1)))),(4,vP b4 0),(5,vP b5 0),(6,vP b6 0),(7,vP b7 0),(9,vP b9 0),(39,.bool true)]) (λ_=>[.var M 31 D,.var b9 31 C,.var b7 31 aa,.var b6 31 ab,.var b5 31 ac,.var b4 31 ad]) (λJ=>J) ?_ ?_
   ·
    refine zY ((pr (mxT a c 0 1) 0 1)=(pr c 0 1)) (λH=>?_) (λH=>?_)
    ·
     refine go1 ?_;refine gT H I (go6 ?_);refine zR h4 (MLe.refl _) ⟨?_,I,I,I,I,I,I,trivial⟩ I I;exact congrArg some (vH H)
    refine go1 ?_;refine gF H I (go1 ?_);refine lX (xB zH pH G) λer cz=>(go1 ?_);refine lX (xB zH pH ao) λeq cy=>(go1 ?_);refine cL (ev2 I I) call174 (λw hs=>jD hs cz (cy.le (Le.t (Le.q (l:=k+1) oM))) oM) λbu h5 bc cw=>?_;obtain rfl:bu=vB ((pr (mxT a c 0 1) 0 1)=(pr d 0 1)):=cw;refine go3 ?_;refine zR h5 bc ⟨?_,I,I,I,I,I,I,trivial⟩ I I;exact congrArg some (vJ H)
   intro aq ai;refine tZ ?_;refine go2 ?_;refine zR aq (U.trans ai) ⟨?_,I,I,I,I,I,trivial⟩ I I;exact congrArg some (xC H)
  refine gF H I (uE ?_);refine zR ak (MLe.refl _) ⟨?_,I,I,I,I,I,trivial⟩ I I;exact congrArg some (xD H)
 intro aj bh;refine tZ ?_;refine qB (ι:=Mem) 6 (λJ=>MLe aj J) (λ_=>[(54,vB (((((pr (mxT a c 0 1) 0 1)=(pr a 0 1))\/((pr (mxT a c 0 1) 0 1)=(pr b 0 1)))/\(((pr (mxT a c 0 1) 0 1)=(pr c 0 1))\/((pr (mxT a c 0 1) 0 1)=(pr d 0 1))))/\(onS (pr a 0 1) (pr b 0 1) (pr (mxT a c 0 1) 0 1)))),(4,vP b4 0),(5,vP b5 0),(6,vP b6 0),(7,vP b7 0),(9,vP b9 0)]) (λ_=>[.var M 31 D,.var b9 31 C,.var b7 31 aa,.var b6 31 ab,.var b5 31 ac,.var b4 31 ad]) (λJ=>J) ?_ ?_
 ·
  refine zY ((((pr (mxT a c 0 1) 0 1)=(pr a 0 1))\/((pr (mxT a c 0 1) 0 1)=(pr b 0 1)))/\(((pr (mxT a c 0 1) 0 1)=(pr c 0 1))\/((pr (mxT a c 0 1) 0 1)=(pr d 0 1)))) (λH=>?_) (λH=>?_)
  ·
   refine gT H I (go1 ?_);refine lX (xB zH pH ax) λep cv=>(go1 ?_);refine lX (xB zH pH aw) λeo cu=>(go1 ?_);refine lX (xB zH pH G) λen ct=>(go1 ?_);refine cL (ev3 I I I) call184 (λw hs=>oD hs (cv.le (Le.t (Le.q (l:=k+1) oM))) (cu.le (Le.t (Le.q (l:=k+1) oM))) ct oM) λbt h4 U cq=>?_;obtain rfl:bt=vB (onS (pr a 0 1) (pr b 0 1) (pr (mxT a c 0 1) 0 1)):=cq;refine go2 ?_;refine zR h4 U ⟨?_,I,I,I,I,I,trivial⟩ I I;exact congrArg some (xC H)
  refine gF H I (go6 ?_);refine zR aj (MLe.refl _) ⟨?_,I,I,I,I,I,trivial⟩ I I;exact congrArg some (xD H)
 intro O bb;refine tZ ?_;refine qB (ι:=Mem) 6 (λJ=>MLe O J) (λ_=>[(60,vB ((((((pr (mxT a c 0 1) 0 1)=(pr a 0 1))\/((pr (mxT a c 0 1) 0 1)=(pr b 0 1)))/\(((pr (mxT a c 0 1) 0 1)=(pr c 0 1))\/((pr (mxT a c 0 1) 0 1)=(pr d 0 1))))/\(onS (pr a 0 1) (pr b 0 1) (pr (mxT a c 0 1) 0 1)))/\(onS (pr c 0 1) (pr d 0 1) (pr (mxT a c 0 1) 0 1)))),(4,vP b4 0),(5,vP b5 0),(6,vP b6 0),(7,vP b7 0),(9,vP b9 0)]) (λ_=>[.var M 31 D,.var b9 31 C,.var b7 31 aa,.var b6 31 ab,.var b5 31 ac,.var b4 31 ad]) (λJ=>J) ?_ ?_
 ·
  refine zY (((((pr (mxT a c 0 1) 0 1)=(pr a 0 1))\/((pr (mxT a c 0 1) 0 1)=(pr b 0 1)))/\(((pr (mxT a c 0 1) 0 1)=(pr c 0 1))\/((pr (mxT a c 0 1) 0 1)=(pr d 0 1))))/\(onS (pr a 0 1) (pr b 0 1) (pr (mxT a c 0 1) 0 1))) (λH=>?_) (λH=>?_)
  ·
   refine gT H I (go1 ?_);refine lX (xB zH pH ap) λem cp=>(go1 ?_);refine lX (xB zH pH ao) λel co=>(go1 ?_);refine lX (xB zH pH G) λek cn=>(go1 ?_);refine cL (ev3 I I I) call184 (λw hs=>oD hs (cp.le (Le.t (Le.q (l:=k+1) oM))) (co.le (Le.t (Le.q (l:=k+1) oM))) cn oM) λbs h4 U cm=>?_;obtain rfl:bs=vB (onS (pr c 0 1) (pr d 0 1) (pr (mxT a c 0 1) 0 1)):=cm;refine go2 ?_;refine zR h4 U ⟨?_,I,I,I,I,I,trivial⟩ I I;exact congrArg some (xC H)
  refine gF H I (go6 ?_);refine zR O (MLe.refl _) ⟨?_,I,I,I,I,I,trivial⟩ I I;exact congrArg some (xD H)
 intro bk ba;refine tZ ?_;refine gc3 (λbm=>?_) λbm=>?_
 ·
  refine go8 ?_;refine zC I I ?_;refine congrArg vI ?_;rw[<-zF5 I I];unfold zF6;grind
 refine go2 ?_;refine lX (xB zH pH ax) λej cl=>(lX (xB zH pH aw) λei ck=>(lX (xB zH pH G) λeh cj=>(cL (ev3 I I I) call184 (λw hs=>oD hs (cl.le (Le.t (Le.q (l:=k+1) oM))) (ck.le (Le.t (Le.q (l:=k+1) oM))) cj oM) λbr h4 U ci=>?_)));obtain rfl:br=vB (onS (pr a 0 1) (pr b 0 1) (pr (mxT a c 0 1) 0 1)):=ci;refine qB (ι:=Mem) 6 (λJ=>MLe h4 J) (λ_=>[(71,vB ((onS (pr a 0 1) (pr b 0 1) (pr (mxT a c 0 1) 0 1))/\(onS (pr c 0 1) (pr d 0 1) (pr (mxT a c 0 1) 0 1))))]) (λ_=>[.var M 31 D,.var b9 31 C,.var b7 31 aa,.var b6 31 ab,.var b5 31 ac,.var b4 31 ad]) (λJ=>J) ?_ ?_
 ·
  refine zY (onS (pr a 0 1) (pr b 0 1) (pr (mxT a c 0 1) 0 1)) (λH=>?_) (λH=>?_)
  ·
   refine gT H I (go1 ?_);refine lX (xB zH pH ap) λeg ch=>(go1 ?_);refine lX (xB zH pH ao) λef cg=>(go1 ?_);refine lX (xB zH pH G) λee cf=>(go1 ?_);refine cL (ev3 I I I) call184 (λw hs=>oD hs (ch.le (Le.t (Le.q (l:=k+1) oM))) (cg.le (Le.t (Le.q (l:=k+1) oM))) cf oM) λbq h5 bc ce=>?_;obtain rfl:bq=vB (onS (pr c 0 1) (pr d 0 1) (pr (mxT a c 0 1) 0 1)):=ce;refine go2 ?_;refine zR h5 bc ⟨?_,trivial⟩ I I;exact congrArg some (xC H)
  refine gF H I (go6 ?_);refine zR h4 (MLe.refl _) ⟨?_,trivial⟩ I I;exact congrArg some (xD H)
 intro bp bg;refine tZ ?_;refine gc3 (λbl=>?_) λbl=>?_
 ·
  refine go8 ?_;refine zC I I ?_;refine congrArg vI ?_;rw[<-zF5 I I];unfold zF6;grind
 refine go9 ?_;refine zC I I ?_;refine congrArg vI ?_;rw[<-zF5 I I];unfold zF6;grind
theorem zLW{k:Nat}{va:Value}{a:Tq}(ra:(tPt k).Is h0 va a){vb:Value}{b:Tq}(rb:(tPt k).Is h0 vb b){vc:Value}{c:Tq}(rc:(tPt k).Is h0 vc c){vd:Value}{d:Tq}(rd:(tPt k).Is h0 vd d)(hcd0:k<=10000):
 Calls Tryz.prog 202 #[va,vb,vc,vd] w0 (Ret w0 h0 (λ_ r=>r=vI (iW (pr a 0 1) (pr b 0 1) (pr c 0 1) (pr d 0 1)))):=by
 refine jI (n:=29) (e:=[(0,va),(1,vb),(2,vc),(3,vd)]) (vs:=[va,vb,vc,vd]) func202 rfl rfl (bL rfl) hs e4z (go2 ?_);refine nB ra λb4 ad U=>(nB rb λb5 ac ah=>(nB rc λb6 ab O=>(nB rd λb7 aa ae=>(go6 ?_))));refine lX (xB zH pH U) λv9 r9=>(lX (xB zH pH ah) λbo bd=>(cL (ev2 I I) call174 (λw hs=>jD hs r9 bd oM) λao h1 bp bc=>?_));obtain rfl:ao=vB ((pr a 0 1)=(pr b 0 1)):=bc;refine qB (ι:=Mem) 6 (λH=>MLe h1 H) (λ_=>[(17,vB (((pr a 0 1)=(pr b 0 1))/\(onS (pr c 0 1) (pr d 0 1) (pr a 0 1)))),(4,vP b4 0),(5,vP b5 0),(6,vP b6 0),(7,vP b7 0)]) (λ_=>[.var b7 31 aa,.var b6 31 ab,.var b5 31 ac,.var b4 31 ad]) (λH=>H) ?_ ?_
 ·
  refine zY ((pr a 0 1)=(pr b 0 1)) (λC=>?_) (λC=>?_)
  ·
   refine gT C I (go1 ?_);refine lX (xB zH pH O) λbn bb=>(go1 ?_);refine lX (xB zH pH ae) λbm ba=>(go1 ?_);refine lX (xB zH pH U) λbl az=>(go1 ?_);refine cL (ev3 I I I) call184 (λw hs=>oD hs bb ba az oM) λan h2 Z ay=>?_;obtain rfl:an=vB (onS (pr c 0 1) (pr d 0 1) (pr a 0 1)):=ay;refine go2 ?_;refine zR h2 Z ⟨?_,I,I,I,I,trivial⟩ I I;exact congrArg some (xC C)
  refine gF C I (go6 ?_);refine zR h1 (MLe.refl _) ⟨?_,I,I,I,I,trivial⟩ I I;exact congrArg some (xD C)
 intro G aj;refine tZ ?_;refine qB (ι:=Mem) 11 (λH=>MLe G H) (λ_=>[(28,vB ((((pr a 0 1)=(pr b 0 1))/\(onS (pr c 0 1) (pr d 0 1) (pr a 0 1)))\/(((pr c 0 1)=(pr d 0 1))/\(onS (pr a 0 1) (pr b 0 1) (pr c 0 1)))))]) (λ_=>[.var b7 31 aa,.var b6 31 ab,.var b5 31 ac,.var b4 31 ad]) (λH=>H) ?_ ?_
 ·
  refine zY (((pr a 0 1)=(pr b 0 1))/\(onS (pr c 0 1) (pr d 0 1) (pr a 0 1))) (λC=>?_) (λC=>?_)
  ·
   refine gT C I (qA ?_);refine zR G (MLe.refl _) ⟨?_,trivial⟩ I I;exact congrArg some (vH C)
  refine gF C I (go1 ?_);refine lX (xB zH pH O) λbk ax=>(go1 ?_);refine lX (xB zH pH ae) λbj aw=>(go1 ?_);refine cL (ev2 I I) call174 (λw hs=>jD hs ax aw oM) λam h2 Z av=>?_;obtain rfl:am=vB ((pr c 0 1)=(pr d 0 1)):=av;refine qB (ι:=Mem) 6 (λH=>MLe h2 H) (λ_=>[(27,vB (((pr c 0 1)=(pr d 0 1))/\(onS (pr a 0 1) (pr b 0 1) (pr c 0 1)))),(18,.bool false)]) (λ_=>[.var b7 31 aa,.var b6 31 ab,.var b5 31 ac,.var b4 31 ad]) (λH=>H) ?_ ?_
  ·
   refine zY ((pr c 0 1)=(pr d 0 1)) (λC=>?_) (λC=>?_)
   ·
    refine go1 ?_;refine gT C I (go1 ?_);refine lX (xB zH pH U) λbi au=>(go1 ?_);refine lX (xB zH pH ah) λbh ar=>(go1 ?_);refine lX (xB zH pH O) λbg aq=>(go1 ?_);refine cL (ev3 I I I) call184 (λw hs=>oD hs au ar aq oM) λak h3 bf ap=>?_;obtain rfl:ak=vB (onS (pr a 0 1) (pr b 0 1) (pr c 0 1)):=ap;refine go3 ?_;refine zR h3 bf ⟨?_,I,trivial⟩ I I;exact congrArg some (xC C)
   refine go1 ?_;refine gF C I (go7 ?_);refine zR h2 (MLe.refl _) ⟨?_,I,trivial⟩ I I;exact congrArg some (xD C)
  intro M D;refine tZ ?_;refine go2 ?_;refine zR M (Z.trans D) ⟨?_,trivial⟩ I I;exact congrArg some (vJ C)
 intro be ai;refine tZ ?_;refine gc2 (λJ=>?_) λJ=>?_
 ·
  refine go7 ?_;refine zC I I ?_;exact congrArg vI (if_pos J).symm
 refine go8 ?_;refine zC I I ?_;exact congrArg vI (if_neg J).symm
theorem zFL{k:Nat}{va:Value}{a:Tq}(ra:(tPt k).Is h0 va a){vb:Value}{b:Tq}(rb:(tPt k).Is h0 vb b){vc:Value}{c:Tq}(rc:(tPt k).Is h0 vc c){vd:Value}{d:Tq}(rd:(tPt k).Is h0 vd d)(hcd0:k<=5000):
 Calls Tryz.prog 175 #[va,vb,vc,vd] w0 (Ret w0 h0 (λ_ r=>r=vI (mR (pr a 0 1) (pr b 0 1) (pr c 0 1) (pr d 0 1)))):=by
 refine jI (n:=117) (e:=[(0,va),(1,vb),(2,vc),(3,vd)]) (vs:=[va,vb,vc,vd]) func175 rfl rfl (bL rfl) hs e4z (go2 ?_);refine nB ra λb4 kb cc=>(nB rb λb5 ka cb=>(nB rc λb6 jz ca=>(nB rd λb7 jy bz=>(go4 ?_))));refine zK 8 _ [] [(0,.q),(2,.q),(4,.q),(6,.q),(1,.c),(3,.c),(5,.c),(7,.c),(8,.t),(9,.t),(10,.t),(11,.t)] zX nX (wJ zob) nX (λr hr=>hr) (wX I (xB zH pH cc) λjq gk=>(wX I (xB zH pH cb) λjo gh=>(wX I (xB zH pH ca) λjm gf=>(wX I (xB zH pH bz) λjk gc=>?_))));refine w_c I (sC (ev1 I) call185 (λw hs=>cS hs gk) λjp h1 jw gj=>?_);refine w_c I (sC (ev1 I) call185 (λw hs=>cS hs gh.up) λjn h2 jv gg=>?_);refine w_c I (sC (ev1 I) call185 (λw hs=>cS hs gf.up) λjl h3 ju ge=>?_);refine w_c I (sC (ev1 I) call185 (λw hs=>cS hs gc.up) λjj h4 jt gb=>?_);have bd:=(Le.t (Le.q (l:=k+1) oM)).R cc;refine yJ (A:=[_,_,_]) I (uB sizeOf31 pH bd gj) λbp ad=>?_;have bc:=(Le.t (Le.q (l:=k+1) oM)).R cb;refine yJ (A:=[_,_]) I (uB sizeOf31 pH bc gg) λbo ac=>?_;have bb:=(Le.t (Le.q (l:=k+1) oM)).R ca;refine yJ (A:=[_]) I (uB sizeOf31 pH bb ge) λaz ab=>?_;have ba:=(Le.t (Le.q (l:=k+1) oM)).R bz;refine yJ (A:=[]) I (uB sizeOf31 pH ba gb) λay aa=>(go2 ?_);refine jG (ι:=List Value×List Value×Mem) (λ(D,C,m1)=>MLe h4 m1/\((tPt (k+1)).R m1 D (loT (zZ a) (zZ b) 0 1)/\(tPt (k+1)).R m1 C (hiT (zZ a) (zZ b) 0 1)/\True)) (λ(D,C,m1)=>[(4,vP b4 0),(5,vP b5 0),(6,vP b6 0),(7,vP b7 0)]) (λ(D,C,m1)=>[.var b7 31 ay,.var b6 31 az,.var b5 31 C,.var b4 31 D]) (λ(D,C,m1)=>m1) ?_ ?_
 ·
  refine go2 ?_;refine lX (xB zH pH ac) λji ga=>(lX (xB zH pH ad) λjh fz=>(cL (ev2 I I) call200 (λw hs=>pM hs ga fz oM) λdp h5 ap fy=>?_));obtain rfl:dp=vB (lx (pr (zZ b) 0 1) (pr (zZ a) 0 1)):=fy;refine gc2 (λaj=>?_) λaj=>?_
  ·
   refine go1 ?_;refine lX (xB zH pH ac) λjg fx=>(lX (xB zH pH ad) λjf fw=>(yB (A:=[_,_,_]) (uB sizeOf31 pH ad fx) λbn bh=>(yB (A:=[_,_]) (uB sizeOf31 pH ac fw) λbm bg=>(go1 ?_))));refine zR (bn,bm,h5) ?_ e4z I I;refine⟨ap,?_⟩;refine⟨(Rp.castR bh (if_pos aj).symm),(Rp.castR bg (if_pos aj).symm),?_⟩
   trivial
  refine go1 ?_;refine zR (bp,bo,h5) ?_ e4z I I;refine⟨ap,?_⟩;refine⟨(Rp.castR ad.up (if_neg aj).symm),(Rp.castR ac.up (if_neg aj).symm),?_⟩
  trivial
 rintro⟨D,C,m1⟩ ⟨hb,ah⟩
 refine yX ?_;obtain⟨U,O,ah⟩:=ah;refine jG (ι:=List Value×List Value×Mem) (λ(H,G,m2)=>MLe m1 m2/\((tPt (k+1)).R m2 H (loT (zZ c) (zZ d) 0 1)/\(tPt (k+1)).R m2 G (hiT (zZ c) (zZ d) 0 1)/\True)) (λ(H,G,m2)=>[(4,vP b4 0),(5,vP b5 0),(6,vP b6 0),(7,vP b7 0)]) (λ(H,G,m2)=>[.var b7 31 G,.var b6 31 H,.var b5 31 C,.var b4 31 D]) (λ(H,G,m2)=>m2) ?_ ?_
 ·
  refine go2 ?_;refine lX (xB zH pH aa) λje fv=>(lX (xB zH pH ab) λjd fu=>(cL (ev2 I I) call200 (λw hs=>pM hs fv fu oM) λdn h5 ap ft=>?_));obtain rfl:dn=vB (lx (pr (zZ d) 0 1) (pr (zZ c) 0 1)):=ft;refine gc2 (λai=>?_) λai=>?_
  ·
   refine go1 ?_;refine lX (xB zH pH aa) λjc fs=>(lX (xB zH pH ab) λjb fr=>(yB (A:=[_]) (uB sizeOf31 pH ab fs) λbl bf=>(yB (A:=[]) (uB sizeOf31 pH aa fr) λbk be=>(go1 ?_))));refine zR (bl,bk,h5) ?_ e4z I I;refine⟨ap,?_⟩;refine⟨(Rp.castR bf (if_pos ai).symm),(Rp.castR be (if_pos ai).symm),?_⟩
   trivial
  refine go1 ?_;refine zR (az,ay,h5) ?_ e4z I I;refine⟨ap,?_⟩;refine⟨(Rp.castR ab.up (if_neg ai).symm),(Rp.castR aa.up (if_neg ai).symm),?_⟩
  trivial
 rintro⟨H,G,m2⟩ ⟨ha,ah⟩
 refine yX ?_;obtain⟨M,J,ah⟩:=ah;refine go3 ?_;refine lX (xB zH pH U) λja fq=>(lX (xB zH pH O) λiz fp=>(lX (xB zH pH M) λiy fo=>(cL (ev3 I I I) call186 (λw hs=>tM hs fq fp fo oM) λdm h5 ap fm=>?_)));obtain rfl:dm=vI (orZ (pr (loT (zZ a) (zZ b) 0 1) 0 1) (pr (hiT (zZ a) (zZ b) 0 1) 0 1) (pr (loT (zZ c) (zZ d) 0 1) 0 1)):=fm;have gr:=tJ (pr (loT (zZ a) (zZ b) 0 1) 0 1) (pr (hiT (zZ a) (zZ b) 0 1) 0 1) (pr (loT (zZ c) (zZ d) 0 1) 0 1);refine go1 ?_;refine qB (ι:=Mem) 7 (λm_=>MLe h5 m_) (λ_=>[(40,vB (((orZ (pr (loT (zZ a) (zZ b) 0 1) 0 1) (pr (hiT (zZ a) (zZ b) 0 1) 0 1) (pr (loT (zZ c) (zZ d) 0 1) 0 1))=(0:Int))/\((orZ (pr (loT (zZ a) (zZ b) 0 1) 0 1) (pr (hiT (zZ a) (zZ b) 0 1) 0 1) (pr (hiT (zZ c) (zZ d) 0 1) 0 1))=(0:Int)))),(4,vP b4 0),(5,vP b5 0),(6,vP b6 0),(7,vP b7 0)]) (λ_=>[.var b7 31 G,.var b6 31 H,.var b5 31 C,.var b4 31 D]) (λm_=>m_) ?_ ?_
 ·
  refine zY ((orZ (pr (loT (zZ a) (zZ b) 0 1) 0 1) (pr (hiT (zZ a) (zZ b) 0 1) 0 1) (pr (loT (zZ c) (zZ d) 0 1) 0 1))=(0:Int)) (λZ=>?_) (λZ=>?_)
  ·
   refine gT Z I (go1 ?_);refine lX (xB zH pH U) λix fl=>(go1 ?_);refine lX (xB zH pH O) λiw fk=>(go1 ?_);refine lX (xB zH pH J) λiv fj=>(go1 ?_);refine cL (ev3 I I I) call186 (λw hs=>tM hs fl fk fj oM) λdl h6 ak fi=>?_;obtain rfl:dl=vI (orZ (pr (loT (zZ a) (zZ b) 0 1) 0 1) (pr (hiT (zZ a) (zZ b) 0 1) 0 1) (pr (hiT (zZ c) (zZ d) 0 1) 0 1)):=fi;have gq:=tJ (pr (loT (zZ a) (zZ b) 0 1) 0 1) (pr (hiT (zZ a) (zZ b) 0 1) 0 1) (pr (hiT (zZ c) (zZ d) 0 1) 0 1);refine go4 ?_;refine zR h6 ak ⟨?_,I,I,I,I,trivial⟩ I I;exact congrArg some (xC Z)
  refine gF Z I (go7 ?_);refine zR h5 (MLe.refl _) ⟨?_,I,I,I,I,trivial⟩ I I;exact congrArg some (xD Z)
 intro aq cq;refine tZ ?_;refine qB (ι:=Mem) 7 (λm_=>MLe aq m_) (λ_=>[(47,vB ((((orZ (pr (loT (zZ a) (zZ b) 0 1) 0 1) (pr (hiT (zZ a) (zZ b) 0 1) 0 1) (pr (loT (zZ c) (zZ d) 0 1) 0 1))=(0:Int))/\((orZ (pr (loT (zZ a) (zZ b) 0 1) 0 1) (pr (hiT (zZ a) (zZ b) 0 1) 0 1) (pr (hiT (zZ c) (zZ d) 0 1) 0 1))=(0:Int)))/\((orZ (pr (loT (zZ c) (zZ d) 0 1) 0 1) (pr (hiT (zZ c) (zZ d) 0 1) 0 1) (pr (loT (zZ a) (zZ b) 0 1) 0 1))=(0:Int)))),(4,vP b4 0),(5,vP b5 0),(6,vP b6 0),(7,vP b7 0)]) (λ_=>[.var b7 31 G,.var b6 31 H,.var b5 31 C,.var b4 31 D]) (λm_=>m_) ?_ ?_
 ·
  refine zY (((orZ (pr (loT (zZ a) (zZ b) 0 1) 0 1) (pr (hiT (zZ a) (zZ b) 0 1) 0 1) (pr (loT (zZ c) (zZ d) 0 1) 0 1))=(0:Int))/\((orZ (pr (loT (zZ a) (zZ b) 0 1) 0 1) (pr (hiT (zZ a) (zZ b) 0 1) 0 1) (pr (hiT (zZ c) (zZ d) 0 1) 0 1))=(0:Int))) (λZ=>?_) (λZ=>?_)
  ·
   refine gT Z I (go1 ?_);refine lX (xB zH pH M) λiu fh=>(go1 ?_);refine lX (xB zH pH J) λir fg=>(go1 ?_);refine lX (xB zH pH U) λiq ff=>(go1 ?_);refine cL (ev3 I I I) call186 (λw hs=>tM hs fh fg ff oM) λdk h6 ak fe=>?_;obtain rfl:dk=vI (orZ (pr (loT (zZ c) (zZ d) 0 1) 0 1) (pr (hiT (zZ c) (zZ d) 0 1) 0 1) (pr (loT (zZ a) (zZ b) 0 1) 0 1)):=fe;have go:=tJ (pr (loT (zZ c) (zZ d) 0 1) 0 1) (pr (hiT (zZ c) (zZ d) 0 1) 0 1) (pr (loT (zZ a) (zZ b) 0 1) 0 1);refine go4 ?_;refine zR h6 ak ⟨?_,I,I,I,I,trivial⟩ I I;exact congrArg some (xC Z)
  refine gF Z I (go7 ?_);refine zR aq (MLe.refl _) ⟨?_,I,I,I,I,trivial⟩ I I;exact congrArg some (xD Z)
 intro am br;refine tZ ?_;refine qB (ι:=Mem) 7 (λm_=>MLe am m_) (λ_=>[(54,vB (((((orZ (pr (loT (zZ a) (zZ b) 0 1) 0 1) (pr (hiT (zZ a) (zZ b) 0 1) 0 1) (pr (loT (zZ c) (zZ d) 0 1) 0 1))=(0:Int))/\((orZ (pr (loT (zZ a) (zZ b) 0 1) 0 1) (pr (hiT (zZ a) (zZ b) 0 1) 0 1) (pr (hiT (zZ c) (zZ d) 0 1) 0 1))=(0:Int)))/\((orZ (pr (loT (zZ c) (zZ d) 0 1) 0 1) (pr (hiT (zZ c) (zZ d) 0 1) 0 1) (pr (loT (zZ a) (zZ b) 0 1) 0 1))=(0:Int)))/\((orZ (pr (loT (zZ c) (zZ d) 0 1) 0 1) (pr (hiT (zZ c) (zZ d) 0 1) 0 1) (pr (hiT (zZ a) (zZ b) 0 1) 0 1))=(0:Int)))),(4,vP b4 0),(5,vP b5 0),(6,vP b6 0),(7,vP b7 0)]) (λ_=>[.var b7 31 G,.var b6 31 H,.var b5 31 C,.var b4 31 D]) (λm_=>m_) ?_ ?_
 ·
  refine zY ((((orZ (pr (loT (zZ a) (zZ b) 0 1) 0 1) (pr (hiT (zZ a) (zZ b) 0 1) 0 1) (pr (loT (zZ c) (zZ d) 0 1) 0 1))=(0:Int))/\((orZ (pr (loT (zZ a) (zZ b) 0 1) 0 1) (pr (hiT (zZ a) (zZ b) 0 1) 0 1) (pr (hiT (zZ c) (zZ d) 0 1) 0 1))=(0:Int)))/\((orZ (pr (loT (zZ c) (zZ d) 0 1) 0 1) (pr (hiT (zZ c) (zZ d) 0 1) 0 1) (pr (loT (zZ a) (zZ b) 0 1) 0 1))=(0:Int))) (λZ=>?_) (λZ=>?_)
  ·
   refine gT Z I (go1 ?_);refine lX (xB zH pH M) λip fd=>(go1 ?_);refine lX (xB zH pH J) λio fc=>(go1 ?_);refine lX (xB zH pH O) λim fb=>(go1 ?_);refine cL (ev3 I I I) call186 (λw hs=>tM hs fd fc fb oM) λdj h6 ak fa=>?_;obtain rfl:dj=vI (orZ (pr (loT (zZ c) (zZ d) 0 1) 0 1) (pr (hiT (zZ c) (zZ d) 0 1) 0 1) (pr (hiT (zZ a) (zZ b) 0 1) 0 1)):=fa;have gn:=tJ (pr (loT (zZ c) (zZ d) 0 1) 0 1) (pr (hiT (zZ c) (zZ d) 0 1) 0 1) (pr (hiT (zZ a) (zZ b) 0 1) 0 1);refine go4 ?_;refine zR h6 ak ⟨?_,I,I,I,I,trivial⟩ I I;exact congrArg some (xC Z)
  refine gF Z I (go7 ?_);refine zR am (MLe.refl _) ⟨?_,I,I,I,I,trivial⟩ I I;exact congrArg some (xD Z)
 intro cz bq;refine tZ ?_;refine gc2 (λcw=>?_) λcw=>?_
 ·
  refine go2 ?_;refine lX (xB zH pH U) λil ez=>(lX (xB zH pH O) λik ey=>(lX (xB zH pH M) λij ew=>(lX (xB zH pH J) λii ev=>(cL (ev4 I I I I) call201 (λw hs=>zSY hs ez ey ew ev oM) λdi h6 ak eu=>?_))));obtain rfl:di=vI (zDH (pr (loT (zZ a) (zZ b) 0 1) 0 1) (pr (hiT (zZ a) (zZ b) 0 1) 0 1) (pr (loT (zZ c) (zZ d) 0 1) 0 1) (pr (hiT (zZ c) (zZ d) 0 1) 0 1)):=eu;refine go5 ?_;refine zC I I ?_;refine congrArg vI ?_;rw[<-zAG I I I I];unfold u4;grind
 refine go5 ?_;refine lX (xB zH pH U) λih es=>(lX (xB zH pH O) λig er=>(cL (ev2 I I) call174 (λw hs=>jD hs es er oM) λdh h6 ak eq=>?_));obtain rfl:dh=vB ((pr (loT (zZ a) (zZ b) 0 1) 0 1)=(pr (hiT (zZ a) (zZ b) 0 1) 0 1)):=eq;refine qB (ι:=Mem) 5 (λm_=>MLe h6 m_) (λ_=>[(67,vB (((pr (loT (zZ a) (zZ b) 0 1) 0 1)=(pr (hiT (zZ a) (zZ b) 0 1) 0 1))\/((pr (loT (zZ c) (zZ d) 0 1) 0 1)=(pr (hiT (zZ c) (zZ d) 0 1) 0 1)))),(4,vP b4 0),(5,vP b5 0),(6,vP b6 0),(7,vP b7 0)]) (λ_=>[.var b7 31 G,.var b6 31 H,.var b5 31 C,.var b4 31 D]) (λm_=>m_) ?_ ?_
 ·
  refine zY ((pr (loT (zZ a) (zZ b) 0 1) 0 1)=(pr (hiT (zZ a) (zZ b) 0 1) 0 1)) (λZ=>?_) (λZ=>?_)
  ·
   refine gT Z I (go5 ?_);refine zR h6 (MLe.refl _) ⟨?_,I,I,I,I,trivial⟩ I I;exact congrArg some (vH Z)
  refine gF Z I (go1 ?_);refine lX (xB zH pH M) λie ep=>(go1 ?_);refine lX (xB zH pH J) λid eo=>(go1 ?_);refine cL (ev2 I I) call174 (λw hs=>jD hs ep eo oM) λdf h7 bj en=>?_;obtain rfl:df=vB ((pr (loT (zZ c) (zZ d) 0 1) 0 1)=(pr (hiT (zZ c) (zZ d) 0 1) 0 1)):=en;refine go2 ?_;refine zR h7 bj ⟨?_,I,I,I,I,trivial⟩ I I;exact congrArg some (vJ Z)
 intro gm cp;refine tZ ?_;refine gc2 (λcv=>?_) λcv=>?_
 ·
  refine go2 ?_;refine lX (xB zH pH U) λic em=>(lX (xB zH pH O) λib el=>(lX (xB zH pH M) λia ek=>(lX (xB zH pH J) λhw ej=>(cL (ev4 I I I I) call202 (λw hs=>zLW hs em el ek ej oM) λde h7 bj ei=>?_))));obtain rfl:de=vI (iW (pr (loT (zZ a) (zZ b) 0 1) 0 1) (pr (hiT (zZ a) (zZ b) 0 1) 0 1) (pr (loT (zZ c) (zZ d) 0 1) 0 1) (pr (hiT (zZ c) (zZ d) 0 1) 0 1)):=ei;refine go5 ?_;refine zC I I ?_;refine congrArg vI ?_;rw[<-zAG I I I I];unfold u4;grind
 refine go3 ?_;refine zK 20 _ [] [(0,.q),(1,.q),(2,.q),(4,.q),(5,.q),(6,.q),(9,.q),(10,.q),(11,.q),(13,.q),(14,.q),(15,.q),(3,.c),(7,.c),(8,.q),(12,.c),(16,.c),(17,.q),(18,.q),(19,.q)] zX nX (wJ zob) nX (λr hr=>hr) (wX I (xB zH pH U) λhv eh=>(wX I (xB zH pH O) λhu eg=>(wX I (xB zH pH M) λht ef=>(wX I (xB zH pH U) λhq ed=>(wX I (xB zH pH O) λhp ec=>(wX I (xB zH pH J) λho eb=>(wX I (xB zH pH M) λhn dz=>(wX I (xB zH pH J) λhm dy=>(wX I (xB zH pH U) λhl dx=>(wX I (xB zH pH M) λhk dv=>(wX I (xB zH pH J) λhj du=>(wX I (xB zH pH O) λhf dt=>?_))))))))))));refine w_c I (sC (ev3 I I I) call186 (λw hs=>tM hs eh eg ef oM) λdd h7 bj ee=>?_);obtain rfl:dd=vI (orZ (pr (loT (zZ a) (zZ b) 0 1) 0 1) (pr (hiT (zZ a) (zZ b) 0 1) 0 1) (pr (loT (zZ c) (zZ d) 0 1) 0 1)):=ee;have aw:=tJ (pr (loT (zZ a) (zZ b) 0 1) 0 1) (pr (hiT (zZ a) (zZ b) 0 1) 0 1) (pr (loT (zZ c) (zZ d) 0 1) 0 1);refine w_c I (sC (ev3 I I I) call186 (λw hs=>tM hs ed.up ec.up eb.up oM) λdc h8 js ea=>?_);obtain rfl:dc=vI (orZ (pr (loT (zZ a) (zZ b) 0 1) 0 1) (pr (hiT (zZ a) (zZ b) 0 1) 0 1) (pr (hiT (zZ c) (zZ d) 0 1) 0 1)):=ea;have av:=tJ (pr (loT (zZ a) (zZ b) 0 1) 0 1) (pr (hiT (zZ a) (zZ b) 0 1) 0 1) (pr (hiT (zZ c) (zZ d) 0 1) 0 1);refine wB I (λ_ _=>kU I I (by have:=dL aw av;omega) (by have:=dL aw av;omega)) I ?_;refine w_c I (sC (ev3 I I I) call186 (λw hs=>tM hs dz.up dy.up dx.up oM) λdb h9 jr dw=>?_);obtain rfl:db=vI (orZ (pr (loT (zZ c) (zZ d) 0 1) 0 1) (pr (hiT (zZ c) (zZ d) 0 1) 0 1) (pr (loT (zZ a) (zZ b) 0 1) 0 1)):=dw;have au:=tJ (pr (loT (zZ c) (zZ d) 0 1) 0 1) (pr (hiT (zZ c) (zZ d) 0 1) 0 1) (pr (loT (zZ a) (zZ b) 0 1) 0 1);refine w_c I (sC (ev3 I I I) call186 (λw hs=>tM hs dv.up du.up dt.up oM) λda jx hd dr=>?_);obtain rfl:da=vI (orZ (pr (loT (zZ c) (zZ d) 0 1) 0 1) (pr (hiT (zZ c) (zZ d) 0 1) 0 1) (pr (hiT (zZ a) (zZ b) 0 1) 0 1)):=dr;have ar:=tJ (pr (loT (zZ c) (zZ d) 0 1) 0 1) (pr (hiT (zZ c) (zZ d) 0 1) 0 1) (pr (hiT (zZ a) (zZ b) 0 1) 0 1);refine wB I (λ_ _=>kU I I (by have:=dL au ar;omega) (by have:=dL au ar;omega)) I (uE ?_);refine gU 4 97 (vB (((0:Int)<((orZ (pr (loT (zZ a) (zZ b) 0 1) 0 1) (pr (hiT (zZ a) (zZ b) 0 1) 0 1) (pr (loT (zZ c) (zZ d) 0 1) 0 1))*(orZ (pr (loT (zZ a) (zZ b) 0 1) 0 1) (pr (hiT (zZ a) (zZ b) 0 1) 0 1) (pr (hiT (zZ c) (zZ d) 0 1) 0 1))))\/((0:Int)<((orZ (pr (loT (zZ c) (zZ d) 0 1) 0 1) (pr (hiT (zZ c) (zZ d) 0 1) 0 1) (pr (loT (zZ a) (zZ b) 0 1) 0 1))*(orZ (pr (loT (zZ c) (zZ d) 0 1) 0 1) (pr (hiT (zZ c) (zZ d) 0 1) 0 1) (pr (hiT (zZ a) (zZ b) 0 1) 0 1)))))) ?_ ?_
 ·
  refine zY ((0:Int)<((orZ (pr (loT (zZ a) (zZ b) 0 1) 0 1) (pr (hiT (zZ a) (zZ b) 0 1) 0 1) (pr (loT (zZ c) (zZ d) 0 1) 0 1))*(orZ (pr (loT (zZ a) (zZ b) 0 1) 0 1) (pr (hiT (zZ a) (zZ b) 0 1) 0 1) (pr (hiT (zZ c) (zZ d) 0 1) 0 1)))) (λZ=>?_) (λZ=>?_)
  ·
   refine gT Z I (go4 ?_);refine gqU ?_;exact congrArg some (vH Z)
  refine gF Z I (go6 ?_);refine gqU ?_;exact congrArg some (vJ Z)
 refine gc3 (λcu=>?_) λcu=>?_
 ·
  refine go8 ?_;refine zC I I ?_;refine congrArg vI ?_;rw[<-zAG I I I I];unfold u4;grind
 refine go2 ?_;refine lX (xB zH pH U) λhe dq=>(lX (xB zH pH M) λgz cn=>(cL (ev2 I I) call174 (λw hs=>jD hs dq cn oM) λbx cy hc cm=>?_));obtain rfl:bx=vB ((pr (loT (zZ a) (zZ b) 0 1) 0 1)=(pr (loT (zZ c) (zZ d) 0 1) 0 1)):=cm;refine qB (ι:=Mem) 5 (λm_=>MLe cy m_) (λ_=>[(106,vB (((pr (loT (zZ a) (zZ b) 0 1) 0 1)=(pr (loT (zZ c) (zZ d) 0 1) 0 1))\/((pr (loT (zZ a) (zZ b) 0 1) 0 1)=(pr (hiT (zZ c) (zZ d) 0 1) 0 1)))),(5,vP b5 0),(6,vP b6 0),(7,vP b7 0)]) (λ_=>[.var b7 31 G,.var b6 31 H,.var b5 31 C,.var b4 31 D]) (λm_=>m_) ?_ ?_
 ·
  refine zY ((pr (loT (zZ a) (zZ b) 0 1) 0 1)=(pr (loT (zZ c) (zZ d) 0 1) 0 1)) (λZ=>?_) (λZ=>?_)
  ·
   refine gT Z I (go5 ?_);refine zR cy (MLe.refl _) ⟨?_,I,I,I,trivial⟩ I I;exact congrArg some (vH Z)
  refine gF Z I (go1 ?_);refine lX (xB zH pH U) λgy cl=>(go1 ?_);refine lX (xB zH pH J) λgx ck=>(go1 ?_);refine cL (ev2 I I) call174 (λw hs=>jD hs cl ck oM) λbw ax ae cj=>?_;obtain rfl:bw=vB ((pr (loT (zZ a) (zZ b) 0 1) 0 1)=(pr (hiT (zZ c) (zZ d) 0 1) 0 1)):=cj;refine go2 ?_;refine zR ax ae ⟨?_,I,I,I,trivial⟩ I I;exact congrArg some (vJ Z)
 intro ao bt;refine tZ ?_;refine qB (ι:=Mem) 5 (λm_=>MLe ao m_) (λ_=>[(111,vB ((((pr (loT (zZ a) (zZ b) 0 1) 0 1)=(pr (loT (zZ c) (zZ d) 0 1) 0 1))\/((pr (loT (zZ a) (zZ b) 0 1) 0 1)=(pr (hiT (zZ c) (zZ d) 0 1) 0 1)))\/((pr (hiT (zZ a) (zZ b) 0 1) 0 1)=(pr (loT (zZ c) (zZ d) 0 1) 0 1)))),(5,vP b5 0),(7,vP b7 0)]) (λ_=>[.var b7 31 G,.var b6 31 H,.var b5 31 C,.var b4 31 D]) (λm_=>m_) ?_ ?_
 ·
  refine zY (((pr (loT (zZ a) (zZ b) 0 1) 0 1)=(pr (loT (zZ c) (zZ d) 0 1) 0 1))\/((pr (loT (zZ a) (zZ b) 0 1) 0 1)=(pr (hiT (zZ c) (zZ d) 0 1) 0 1))) (λZ=>?_) (λZ=>?_)
  ·
   refine gT Z I (go5 ?_);refine zR ao (MLe.refl _) ⟨?_,I,I,trivial⟩ I I;exact congrArg some (vH Z)
  refine gF Z I (go1 ?_);refine lX (xB zH pH O) λgw ci=>(go1 ?_);refine lX (xB zH pH M) λgu ch=>(go1 ?_);refine cL (ev2 I I) call174 (λw hs=>jD hs ci ch oM) λbv ax ae cg=>?_;obtain rfl:bv=vB ((pr (hiT (zZ a) (zZ b) 0 1) 0 1)=(pr (loT (zZ c) (zZ d) 0 1) 0 1)):=cg;refine go2 ?_;refine zR ax ae ⟨?_,I,I,trivial⟩ I I;exact congrArg some (vJ Z)
 intro an bs;refine tZ ?_;refine qB (ι:=Mem) 5 (λm_=>MLe an m_) (λ_=>[(116,vB (((((pr (loT (zZ a) (zZ b) 0 1) 0 1)=(pr (loT (zZ c) (zZ d) 0 1) 0 1))\/((pr (loT (zZ a) (zZ b) 0 1) 0 1)=(pr (hiT (zZ c) (zZ d) 0 1) 0 1)))\/((pr (hiT (zZ a) (zZ b) 0 1) 0 1)=(pr (loT (zZ c) (zZ d) 0 1) 0 1)))\/((pr (hiT (zZ a) (zZ b) 0 1) 0 1)=(pr (hiT (zZ c) (zZ d) 0 1) 0 1))))]) (λ_=>[.var b7 31 G,.var b6 31 H,.var b5 31 C,.var b4 31 D]) (λm_=>m_) ?_ ?_
 ·
  refine zY ((((pr (loT (zZ a) (zZ b) 0 1) 0 1)=(pr (loT (zZ c) (zZ d) 0 1) 0 1))\/((pr (loT (zZ a) (zZ b) 0 1) 0 1)=(pr (hiT (zZ c) (zZ d) 0 1) 0 1)))\/((pr (hiT (zZ a) (zZ b) 0 1) 0 1)=(pr (loT (zZ c) (zZ d) 0 1) 0 1))) (λZ=>?_) (λZ=>?_)
  ·
   refine gT Z I (go5 ?_);refine zR an (MLe.refl _) ⟨?_,trivial⟩ I I;exact congrArg some (vH Z)
  refine gF Z I (go1 ?_);refine lX (xB zH pH O) λgt cf=>(go1 ?_);refine lX (xB zH pH J) λgs ce=>(go1 ?_);refine cL (ev2 I I) call174 (λw hs=>jD hs cf ce oM) λbu ax ae cd=>?_;obtain rfl:bu=vB ((pr (hiT (zZ a) (zZ b) 0 1) 0 1)=(pr (hiT (zZ c) (zZ d) 0 1) 0 1)):=cd;refine go2 ?_;refine zR ax ae ⟨?_,trivial⟩ I I;exact congrArg some (vJ Z)
 intro co bi;refine tZ ?_;refine gc3 (λct=>?_) λct=>?_
 ·
  refine go8 ?_;refine zC I I ?_;refine congrArg vI ?_;rw[<-zAG I I I I];unfold u4;grind
 refine go9 ?_;refine zC I I ?_;refine congrArg vI ?_;rw[<-zAG I I I I];unfold u4;grind
theorem zDD{k:Nat}{vl:Value}{l:(List Tq)}(rl:(tLs k).Is h0 vl l){vp:Value}{p:Tq}(rp:(tPt k).Is h0 vp p)(hcd0:k<=5000)(hcd1:l.length<=1000):
 Calls Tryz.prog 150 #[vl,vp] w0 (Ret w0 h0 (λ_ r=>r=vI (gW l (pr p 0 1) 0 1))):=by
 refine cb2 66 vl vp func150 hs ?_;refine go2 ?_;refine nB rp λb3 ae ac=>(sZ ?_);refine gcL (ι:=Nat×Mem) (λ(m,ma)=>(MLe h0 ma/\(m<=l.length/\∀q,q<m->¬onS (vV l 0 1 q) (vT l 0 1 q) (pr p 0 1)),[(0,vl),(3,vP b3 0),(5,vB (jV l (pr p 0 1) 0 1 m)),(6,vI ↑m)],[.var b3 31 ae],ma,l.length-m)) (0,h0) ?_ ?_ (he:=⟨I,I,congrArg some (yG id).symm,I,trivial⟩)
 · exact⟨mle,by omega,λq hq=>by omega⟩
 rintro⟨m,ma⟩ ⟨cm,aw,ad⟩
 refine yX ?_;refine gc9 (λax=>?_) λax=>?_
 ·
  refine go5 ?_;refine zK 16 _ [(12,(7,31,[.bool false,.slice none 0 0,.slice none 0 0,.bool false,.slice none 0 0,.slice none 0 0,.bool false,.slice none 0 0,.slice none 0 0])),(13,(8,31,[.bool false,.slice none 0 0,.slice none 0 0,.bool false,.slice none 0 0,.slice none 0 0,.bool false,.slice none 0 0,.slice none 0 0]))] [(0,.q),(1,.q),(2,.q),(3,.q),(4,.q),(5,.q),(6,.q),(7,.q),(8,.q),(9,.q),(10,.q),(11,.q),(12,.a),(13,.a),(14,.c),(15,.c)] zX (qZ.cons I I (uJ yN I I) (qZ.cons I I (uJ yN I I) qZ.nil)) (wJ zob) (uK I I (uK I I kL)) (λr hr=>hr) (go2 ?_);refine wX I (xI zT m underlying35 zH rl) λdl cg=>(wX I (xA zH cg) λdk cf=>(go4 ?_));refine w_q I (λh' L' hh hR=>uL underlying35 I (rl.up.mono hh)) I (wB I (λ_ _=>wA I I oM oM) I (wX I (xI zT ((m+1)%l.length) underlying35 zH rl (hi:=by exact Nat.mod_lt _ oM)) λdj ce=>(wX I (xA zH ce) λdi cd=>?_)));refine w_a I I (λb7=>?_);have bh:(tPt (k+1)).R ma [.bool false,.slice none 0 0,.slice none 0 0,.bool false,.slice none 0 0,.slice none 0 0,.bool false,.slice none 0 0,.slice none 0 0] zT:=(xN (yH oM));refine w_a I I (λb8=>?_);have bg:(tPt (k+1)).R ma [.bool false,.slice none 0 0,.slice none 0 0,.bool false,.slice none 0 0,.slice none 0 0,.bool false,.slice none 0 0,.slice none 0 0] zT:=(xN (yH oM));refine w_c I (sU (A:=[_]) (uB sizeOf31 pH bh (cf.le (Le.t (Le.q (l:=k+1) oM)))) (xJ zof) λba H=>?_);refine w_c I (sU (A:=[]) (uB sizeOf31 pH bg (cd.le (Le.t (Le.q (l:=k+1) oM)))) (xJ zof) λaz G=>(go4 ?_));refine zK 7 _ [] [(0,.q),(2,.q),(4,.q),(1,.c),(3,.c),(5,.c),(6,.c)] zX nX zob nX (λr hr=>hr) (wX I (xB zH pH H) λdh cc=>(wX I (xB zH pH G) λde cb=>(wX I (xB zH pH ac) λdc ca=>?_)));refine w_c I (sC (ev1 I) call185 (λw hs=>cS hs cc) λdf h1 dq ao=>?_);replace ao:=Rp.Is.le ao (Le.t (Le.q (l:=k+2) oM));refine w_c I (sC (ev1 I) call185 (λw hs=>cS hs cb.up) λdd h2 dp an=>?_);replace an:=Rp.Is.le an (Le.t (Le.q (l:=k+2) oM));refine w_c I (sC (ev1 I) call185 (λw hs=>cS hs ca.up) λdb h3 dn bz=>?_);refine w_c I (sC (ev3 I I I) call184 (λw hs=>oD hs ao.up an.up (bz.le (Le.t (Le.q (l:=k+2) oM))) oM) λbf h4 dm bx=>?_);obtain rfl:bf=vB (onS (pr (T3.mk ((l.getD m zT).x) ((l.getD m zT).y) (0:Rat)) 0 1) (pr (T3.mk ((l.getD ((m+1)%l.length) zT).x) ((l.getD ((m+1)%l.length) zT).y) (0:Rat)) 0 1) (pr (zZ p) 0 1)):=bx;refine gc2 (λU=>?_) λU=>?_
  ·
   refine uS ?_;refine zC I I ?_;exact congrArg vI (zXO oM U)
  refine go2 ?_;refine jG (ι:=List Value×List Value×Mem) (λ(D,C,mc)=>MLe h4 mc/\((tPt (k+1)).R mc D (zBZ (l.getD m zT) (l.getD ((m+1)%l.length) zT))/\(tPt (k+1)).R mc C (zDM (l.getD m zT) (l.getD ((m+1)%l.length) zT))/\True)) (λ(D,C,mc)=>[(0,vl),(3,vP b3 0),(5,vB (jV l (pr p 0 1) 0 1 m)),(6,vI ↑m),(7,vP b7 0),(8,vP b8 0)]) (λ(D,C,mc)=>[.var b8 31 C,.var b7 31 D,.var b3 31 ae]) (λ(D,C,mc)=>mc) ?_ ?_
  ·
   refine go3 ?_;refine lX (xB yC (Pc.ty pH) H) λda bw=>(go1 ?_);refine lX (xB yC (Pc.ty pH) G) λcz bv=>(cL (ev2 I I) call17 (λw hs=>fZ hs bw bv oM) λbe h5 ar bu=>?_);obtain rfl:be=vI (xT ((l.getD m zT).y) ((l.getD ((m+1)%l.length) zT).y)):=bu;have ck:=qV ((l.getD m zT).y) ((l.getD ((m+1)%l.length) zT).y);refine gc3 (λM=>?_) λM=>?_
   ·
    refine go1 ?_;refine lX (xB zH pH G) λcy bt=>(lX (xB zH pH H) λcw bs=>(yB (A:=[_]) (uB sizeOf31 pH H bt) λay am=>(yB (A:=[]) (uB sizeOf31 pH G bs) λau ak=>(go1 ?_))));refine zR (ay,au,h5) ?_ e6z I I;refine⟨ar,?_⟩;refine⟨(Rp.castR am (if_pos M).symm),(Rp.castR ak (if_pos M).symm),?_⟩
    trivial
   refine go1 ?_;refine zR (ba,az,h5) ?_ e6z I I;refine⟨ar,?_⟩;refine⟨(Rp.castR H.up (if_neg M).symm),(Rp.castR G.up (if_neg M).symm),?_⟩
   trivial
  rintro⟨D,C,mc⟩ ⟨cl,aj⟩
  refine yX ?_;obtain⟨ai,ah,aj⟩:=aj;refine go3 ?_;refine lX (xB yC (Pc.ty pH) ai) λcv br=>(go1 ?_);refine lX (xB yC (Pc.ty pH) ac) λcu bq=>(cL (ev2 I I) call17 (λw hs=>fZ hs br bq oM) λbd h5 ar bp=>?_);obtain rfl:bd=vI (xT ((zBZ (l.getD m zT) (l.getD ((m+1)%l.length) zT)).y) p.y):=bp;have cj:=qV ((zBZ (l.getD m zT) (l.getD ((m+1)%l.length) zT)).y) p.y;refine go1 ?_;refine qB (ι:=Mem) 8 (λm_=>MLe h5 m_) (λ_=>[(55,vB (((xT ((zBZ (l.getD m zT) (l.getD ((m+1)%l.length) zT)).y) p.y)<=(0:Int))/\((xT p.y ((zDM (l.getD m zT) (l.getD ((m+1)%l.length) zT)).y))<(0:Int)))),(0,vl),(3,vP b3 0),(5,vB (jV l (pr p 0 1) 0 1 m)),(6,vI ↑m),(7,vP b7 0),(8,vP b8 0)]) (λ_=>[.var b8 31 C,.var b7 31 D,.var b3 31 ae]) (λm_=>m_) ?_ ?_
  ·
   refine zY ((xT ((zBZ (l.getD m zT) (l.getD ((m+1)%l.length) zT)).y) p.y)<=(0:Int)) (λZ=>?_) (λZ=>?_)
   ·
    refine gT Z I (go3 ?_);refine lX (xB yC (Pc.ty pH) ac) λct bo=>(go3 ?_);refine lX (xB yC (Pc.ty pH) ah) λcq bn=>(go1 ?_);refine cL (ev2 I I) call17 (λw hs=>fZ hs bo bn oM) λbc h6 aq bm=>?_;obtain rfl:bc=vI (xT p.y ((zDM (l.getD m zT) (l.getD ((m+1)%l.length) zT)).y)):=bm;have ci:=qV p.y ((zDM (l.getD m zT) (l.getD ((m+1)%l.length) zT)).y);refine go4 ?_;refine zR h6 aq ⟨?_,I,I,I,I,I,I,trivial⟩ I I;exact congrArg some (xC Z)
   refine gF Z I (go8 ?_);refine zR h5 (MLe.refl _) ⟨?_,I,I,I,I,I,I,trivial⟩ I I;exact congrArg some (xD Z)
  intro O av;refine tZ ?_;refine qB (ι:=Mem) 7 (λm_=>MLe O m_) (λ_=>[(62,vB ((((xT ((zBZ (l.getD m zT) (l.getD ((m+1)%l.length) zT)).y) p.y)<=(0:Int))/\((xT p.y ((zDM (l.getD m zT) (l.getD ((m+1)%l.length) zT)).y))<(0:Int)))/\((0:Int)<(orZ (pr (zBZ (l.getD m zT) (l.getD ((m+1)%l.length) zT)) 0 1) (pr (zDM (l.getD m zT) (l.getD ((m+1)%l.length) zT)) 0 1) (pr p 0 1))))),(0,vl),(3,vP b3 0),(5,vB (jV l (pr p 0 1) 0 1 m)),(6,vI ↑m)]) (λ_=>[.var b8 31 C,.var b7 31 D,.var b3 31 ae]) (λm_=>m_) ?_ ?_
  ·
   refine zY (((xT ((zBZ (l.getD m zT) (l.getD ((m+1)%l.length) zT)).y) p.y)<=(0:Int))/\((xT p.y ((zDM (l.getD m zT) (l.getD ((m+1)%l.length) zT)).y))<(0:Int))) (λZ=>?_) (λZ=>?_)
   ·
    refine gT Z I (go1 ?_);refine lX (xB zH pH ai) λcp bl=>(go1 ?_);refine lX (xB zH pH ah) λco bk=>(go1 ?_);refine lX (xB zH pH ac) λcn bj=>(go1 ?_);refine cL (ev3 I I I) call186 (λw hs=>tM hs bl bk (bj.le (Le.t (Le.q (l:=k+1) oM))) oM) λbb h6 aq bi=>?_;obtain rfl:bb=vI (orZ (pr (zBZ (l.getD m zT) (l.getD ((m+1)%l.length) zT)) 0 1) (pr (zDM (l.getD m zT) (l.getD ((m+1)%l.length) zT)) 0 1) (pr p 0 1)):=bi;have ch:=tJ (pr (zBZ (l.getD m zT) (l.getD ((m+1)%l.length) zT)) 0 1) (pr (zDM (l.getD m zT) (l.getD ((m+1)%l.length) zT)) 0 1) (pr p 0 1);refine go4 ?_;refine zR h6 aq ⟨?_,I,I,I,I,trivial⟩ I I;exact congrArg some (xC Z)
   refine gF Z I (go7 ?_);refine zR O (MLe.refl _) ⟨?_,I,I,I,I,trivial⟩ I I;exact congrArg some (xD Z)
  intro J ap;refine tZ ?_;refine gc2 (λab=>?_) λab=>?_
  ·
   refine uS ?_;refine yM (A:=[]) (yM (A:=[]) ?_);refine gqL ((m+1),J) ?_ ?_ (he:=⟨I,I,congrArg (λz=>some (vB z)) (yGA ((zGO _ _ _).1 ab)),I,trivial⟩)
   · exact⟨mle,by omega,zA0 ad U⟩
   omega
  refine go8 ?_;refine yM (A:=[]) (yM (A:=[]) ?_);refine gqL ((m+1),J) ?_ ?_ (he:=⟨I,I,congrArg (λz=>some (vB z)) (yA6 λe=>ab ((zGO _ _ _).2 e)),I,trivial⟩)
  · exact⟨mle,by omega,zA0 ad U⟩
  omega
 refine zCQ (λaa=>?_) λaa=>?_
 ·
  refine go7 ?_;refine zC I I ?_;exact congrArg vI (zXP oM aw ad aa)
 refine go8 ?_;refine zC I I ?_;exact congrArg vI (zQZ oM aw ad aa)
theorem zOW{k:Nat}{vL:Value}{L:(List (List Tq))}(rL:(tLL k).Is h0 vL L){vp:Value}{p:Tq}(rp:(tPt k).Is h0 vp p){i:Nat}{j:Nat}(hcd0:i<3)(hcd1:j<3)(hcd2:k<=100000)(hcd3:∀x,x∈L->x.length<=1000)(hcd4:L.length<=1000):
 Calls Tryz.prog 149 #[vL,vp,vI ↑i,vI ↑j] w0 (Ret w0 h0 (λ_ r=>r=vI (whZ L (pr p i j) i j))):=by
 refine jI (n:=31) (e:=[(0,vL),(1,vp),(2,vI ↑i),(3,vI ↑j)]) (vs:=[vL,vp,vI ↑i,vI ↑j]) func149 rfl rfl (bL rfl) hs e4z (go2 ?_);refine nB rp λb5 ac M=>(mF ?_);refine gcL (ι:=Nat×Mem) (λ(m,ma)=>(MLe h0 ma/\(m<=L.length/\∀q,q<m->¬gW (L.getD q []) (pr p i j) i j=0),[(2,vI ↑i),(3,vI ↑j),(5,vP b5 0),(9,vI (w9 L (pr p i j) i j m)),(12,vL),(13,vI (↑(L).length:Int)),(14,vI ↑m)],[.var b5 31 ac],ma,L.length-m)) (0,h0) ?_ ?_
 · exact⟨mle,by omega,λq hq=>by omega⟩
 rintro⟨m,ma⟩ ⟨ad,ab,G⟩
 refine yX ?_;have aj:=zAC L (pr p i j) i j m;refine gc6 (λH=>?_) λH=>?_
 ·
  refine go6 ?_;refine lX (xI [] m underlying76 vY rL) λai aa=>(lX (xA vY aa) λah Z=>(go6 ?_));refine lX (xB zH pH M) λae U=>(go2 ?_);refine cL (ev4 I I I I) call183 (λw hs=>zL5 (i:=i) (j:=j) hs Z U oM oM oM (by first|omega|exact zMW zol _)) λJ h1 ak O=>?_;obtain rfl:J=vI (gW (L.getD m []) (pr p i j) i j):=O;refine gc9 (λC=>?_) λC=>?_
  ·
   refine uS ?_;refine zC I I ?_;exact congrArg vI (if_pos ⟨m,by omega,C⟩).symm
  refine gc6 (λD=>?_) λD=>?_
  ·
   refine go2 ?_;refine gv (aV I oM oM) I (go9 ?_);refine gqL ((m+1),h1) ?_ ?_ (he:=⟨I,I,I,congrArg (λz=>some (vI z)) (if_pos D).symm,I,I,I,trivial⟩)
   · exact⟨mle,by omega,zDU G C⟩
   omega
  refine go8 ?_;refine gqL ((m+1),h1) ?_ ?_ (he:=⟨I,I,I,congrArg (λz=>some (vI z)) (if_neg D).symm,I,I,I,trivial⟩)
  · exact⟨mle,by omega,zDU G C⟩
  omega
 refine uS ?_;refine zC I I ?_;exact congrArg vI (zT8 oM ab G)
theorem zOT{k:Nat}{vL:Value}{L:(List (List Tq))}(rL:(tLL k).Is h0 vL L){vp:Value}{p:Tq}(rp:(tPt k).Is h0 vp p)(hcd0:k<=5000)(hcd1:∀x,x∈L->x.length<=1000)(hcd2:L.length<=1000):
 Calls Tryz.prog 110 #[vL,vp] w0 (Ret w0 h0 (λ_ r=>r=vI (whZ L (pr p 0 1) 0 1))):=by
 refine cb2 26 vL vp func110 hs ?_;refine go2 ?_;refine nB rp λb3 ac M=>(sZ ?_);refine gcL (ι:=Nat×Mem) (λ(m,ma)=>(MLe h0 ma/\(m<=L.length/\∀q,q<m->¬gW (L.getD q []) (pr p 0 1) 0 1=0),[(0,vL),(3,vP b3 0),(5,vI (w9 L (pr p 0 1) 0 1 m)),(6,vI ↑m)],[.var b3 31 ac],ma,L.length-m)) (0,h0) ?_ ?_
 · exact⟨mle,by omega,λq hq=>by omega⟩
 rintro⟨m,ma⟩ ⟨ad,ab,G⟩
 refine yX ?_;have aj:=zAC L (pr p 0 1) 0 1 m;refine gc9 (λH=>?_) λH=>?_
 ·
  refine go5 ?_;refine zK 6 _ [] [(0,.q),(1,.q),(2,.q),(3,.q),(4,.q),(5,.c)] zX nX zob nX (λr hr=>hr) (go2 ?_);refine wX I (xI [] m underlying76 vY rL) λai aa=>(wX I (xA vY aa) λah Z=>(wX I (xB zH pH M) λae U=>?_));refine w_c I (sC (ev2 I I) call150 (λw hs=>zDD hs Z U oM (by first|omega|exact zMW zol _)) λJ h1 ak O=>?_);obtain rfl:J=vI (gW (L.getD m []) (pr p 0 1) 0 1):=O;refine gc9 (λC=>?_) λC=>?_
  ·
   refine uS ?_;refine zC I I ?_;exact congrArg vI (if_pos ⟨m,by omega,C⟩).symm
  refine gc6 (λD=>?_) λD=>?_
  ·
   refine go2 ?_;refine gv (aV I oM oM) I (uE ?_);refine gqL ((m+1),h1) ?_ ?_ (he:=⟨I,I,congrArg (λz=>some (vI z)) (if_pos D).symm,I,trivial⟩)
   · exact⟨mle,by omega,zDU G C⟩
   omega
  refine go9 ?_;refine gqL ((m+1),h1) ?_ ?_ (he:=⟨I,I,congrArg (λz=>some (vI z)) (if_neg D).symm,I,trivial⟩)
  · exact⟨mle,by omega,zDU G C⟩
  omega
 refine uS ?_;refine zC I I ?_;exact congrArg vI (zT8 oM ab G)
end
end Go.Proofs.YtpkaegemlpaenaaGreat
namespace Bk
open Classical
def zRY(R:Nat->Nat->Prop)(q b:Nat):Prop:=∀p,p<b->R p q
def zKX(R:Nat->Nat->Prop)(a:Nat):Prop:=∀q,q<a->zRY R q q
theorem zUG{R:Nat->Nat->Prop}:zKX R 0:=λq h=>by omega
theorem zZU{R:Nat->Nat->Prop}{q:Nat}:zRY R q 0:=λp h=>by omega
theorem zZV{R:Nat->Nat->Prop}{q b:Nat}(h:zRY R q b)(h1:R b q):zRY R q (b+1):=λp h3=>by
 rcases Nat.lt_succ_iff_lt_or_eq.1 h3 with h4|h4
 · exact h p h4
 · subst h4;exact h1
theorem zUH{R:Nat->Nat->Prop}{a b:Nat}(h:zKX R a)(h1:zRY R a b)(hb:a<=b):zKX R (a+1):=λq h2=>by
 rcases Nat.lt_succ_iff_lt_or_eq.1 h2 with h5|h5
 · exact h q h5
 · subst h5;exactλp hp=>h1 p zoa
def zYW(l:List Pt)(k i:Nat):Prop:=yJ7 l 0 1 k i/\okT l 0 1 k i
theorem yAG{l:List Pt}(h3:3<=l.length)(h:zKX (zYW l) l.length):aE l 0 1:=
 ⟨h3,λp q h1 h2 h4=>(h q h4 p h2).1,λp q h1 h2 h4=>(h q h4 p h2).2⟩
theorem zWF{l:List Pt}{k i:Nat}:mR (vV l 0 1 i) (vT l 0 1 i) (vV l 0 1 k) (vT l 0 1 k)=zHM l.length k i↔okT l 0 1 k i:=by
 unfold okT;rw[<-zKW,zEM]
end Bk
namespace Go.Proofs.YtpkaegemlpaenaaGreat
open Bk Go Tryz
set_option maxRecDepth 10000
set_option maxHeartbeats 1000000
attribute [local irreducible] GL GC GQ W OpV
section
variable{w0:World}{h0:Mem}(hs:MLe h0 (mem w0))
include hs
theorem zLX{k:Nat}{vl:Value}{l:(List Tq)}(rl:(tLs k).Is h0 vl l)(hcd0:k<=5000)(hcd1:l.length<=1000):
 Calls Tryz.prog 129 #[vl] w0 (Ret w0 h0 (λ_ r=>r=vB (aE l 0 1))):=by
 refine cb1 69 vl func129 hs ?_;refine zPO ?_;refine cnd (λaa=>?_) λaa=>?_
 ·
  refine go7 ?_;refine zC I I ?_;exact(yG (λe=>by have:=e.1;omega)).symm
 refine go9 ?_;refine gcL (ι:=Nat×Mem) (λ(i,J)=>(MLe h0 J/\(i<=l.length/\zKX (zYW l) i),[(0,vl),(3,vI (↑(l).length:Int)),(4,vI ↑i)],[],J,l.length-i)) (0,h0) ?_ ?_
 · exact⟨mle,by omega,zUG⟩
 rintro⟨i,J⟩ ⟨ay,bn,hi2⟩
 refine yX ?_;refine gc8 (λZ=>?_) λZ=>?_
 ·
  refine uE ?_;refine gcL (ι:=Nat×Mem) (λ(q,mq)=>(MLe J mq/\(q<=i/\zRY (zYW l) i q),[(0,vl),(3,vI (↑(l).length:Int)),(4,vI ↑i),(5,vI ↑q)],[],mq,i-q)) (0,J) ?_ ?_
  · exact⟨mle,by omega,zZU⟩
  rintro⟨q,mq⟩ ⟨ax,bm,M⟩
  refine yX ?_;refine gc8 (λU=>?_) λU=>?_
  ·
   refine go6 ?_;refine zK 9 _ [] [(0,.q),(1,.q),(2,.q),(3,.q),(4,.q),(5,.q),(6,.q),(7,.q),(8,.c)] zX nX zob nX (λr hr=>hr) (go2 ?_);refine wX I (xI zT i underlying35 zH rl) λbl av=>(wX I (xA zH av) λbk au=>(go2 ?_));refine wX I (xI zT q underlying35 zH rl) λbj ar=>(wX I (xA zH ar) λbi aq=>?_);refine w_c I (sC (ev2 I I) call174 (λw hs=>jD hs au aq oM) λac h1 bp ap=>?_);obtain rfl:ac=vB ((pr (l.getD i zT) 0 1)=(pr (l.getD q zT) 0 1)):=ap;refine gc2 (λG=>?_) λG=>?_
   ·
    refine dT ?_;refine zC I I ?_;exact(yG (λe=>e.2.1 q i oM oM oM G.symm)).symm
   refine go7 ?_;refine jG (ι:=Mem) (λ(H:(Mem))=>MLe h1 H/\(True)) (λ(H:(Mem))=>[(0,vl),(3,vI (↑(l).length:Int)),(4,vI ↑i),(5,vI ↑q),(6,vI (zHM l.length q i))]) (λ(H:(Mem))=>[]) (λ(H:(Mem))=>H) ?_ ?_
   ·
    refine go6 ?_;refine gU 10 43 (vB (((↑i:Int)=((↑q:Int)+(1:Int)))\/(((↑q:Int)=(0:Int))/\((↑i:Int)=((↑(l).length:Int)-(1:Int)))))) ?_ ?_
    ·
     refine zY ((↑i:Int)=((↑q:Int)+(1:Int))) (λC=>?_) (λC=>?_)
     ·
      refine gT C I (uE ?_);refine gqU ?_;exact congrArg some (vH C)
     refine gF C I (go4 ?_);refine gU 6 42 (vB (((↑q:Int)=(0:Int))/\((↑i:Int)=((↑(l).length:Int)-(1:Int))))) ?_ ?_
     ·
      refine zY ((↑q:Int)=(0:Int)) (λC=>?_) (λC=>?_)
      ·
       refine go1 ?_;refine gT C I (qA ?_);refine gqU ?_;exact congrArg some (xC C)
      refine go1 ?_;refine gF C I (go7 ?_);refine gqU ?_;exact congrArg some (xD C)
     refine go2 ?_;refine gqU ?_;exact congrArg some (vJ C)
    refine gc2 (λO=>?_) λO=>?_
    ·
     refine go3 ?_;refine zR (h1) ?_ ⟨I,I,I,I,?_,trivial⟩ I I
     ·
      refine⟨MLe.refl _,?_⟩
      trivial
     · exact congrArg (λz=>some (vI z)) (yD1 oM)
    refine go1 ?_;refine zR (h1) ?_ ⟨I,I,I,I,?_,trivial⟩ I I
    ·
     refine⟨MLe.refl _,?_⟩
     trivial
    · exact congrArg (λz=>some (vI z)) (yD2 oM)
   rintro H ⟨aw,az⟩
   refine yX ?_;refine go1 ?_;refine zK 25 _ [] [(0,.q),(1,.q),(2,.q),(3,.q),(4,.q),(5,.q),(6,.q),(7,.q),(8,.q),(9,.q),(10,.q),(11,.q),(12,.q),(13,.q),(14,.q),(15,.q),(16,.q),(17,.q),(18,.q),(19,.q),(20,.q),(21,.q),(23,.q),(22,.c),(24,.q)] zX nX (wJ zob) nX (λr hr=>hr) (go2 ?_);refine wX I (xI zT i underlying35 zH rl) λbh ao=>(wX I (xA zH ao) λbg an=>(go4 ?_));refine wB I (λ_ _=>wA I I oM oM) I (wX I (xI zT ((i+1)%l.length) underlying35 zH rl (hi:=by exact Nat.mod_lt _ oM)) λbf am=>(wX I (xA zH am) λbe ak=>(go2 ?_)));refine wX I (xI zT q underlying35 zH rl) λbd aj=>(wX I (xA zH aj) λbc ai=>(go4 ?_));refine wB I (λ_ _=>wA I I oM oM) I (wX I (xI zT ((q+1)%l.length) underlying35 zH rl (hi:=by exact Nat.mod_lt _ oM)) λbb ah=>(wX I (xA zH ah) λba ae=>(go1 ?_)));refine w_c I (sC (ev4 I I I I) call175 (λw hs=>zFL hs an ak ai ae oM) λab h2 bo ad=>?_);obtain rfl:ab=vI (mR (pr (l.getD i zT) 0 1) (pr (l.getD ((i+1)%l.length) zT) 0 1) (pr (l.getD q zT) 0 1) (pr (l.getD ((q+1)%l.length) zT) 0 1)):=ad;refine gc3 (λD=>?_) λD=>?_
   ·
    refine sZ ?_;refine zC I I ?_;exact(yG (λe=>D (zWF.2 (e.2.2 q i oM oM oM)))).symm
   refine go8 ?_;refine gqL ((q+1),h2) ?_ ?_
   · exact⟨mle,by omega,zZV M ⟨λe=>G e.symm,zWF.1 (Classical.not_not.1 D)⟩⟩
   omega
  refine qA ?_;refine gqL ((i+1),mq) ?_ ?_
  · exact⟨mle,by omega,zUH hi2 M oM⟩
  omega
 have ei:i=l.length:=by omega
 have hT:=hi2;rw[ei] at hT;refine qA ?_;refine zC I I ?_;exact(xK (yAG oM hT)).symm
theorem zJR{k:Nat}{va:Value}{a:(List Tq)}(ra:(tLs k).Is h0 va a){vb:Value}{b:(List Tq)}(rb:(tLs k).Is h0 vb b)(hcd0:k<=5000)(hcd1:a.length<=1000)(hcd2:b.length<=1000):
 Calls Tryz.prog 130 #[va,vb] w0 (Ret w0 h0 (λ_ r=>r=vB (gK a b 0 1))):=by
 refine cb2 45 va vb func130 hs ?_;refine uS ?_;refine gcL (ι:=Nat×Mem) (λ(p,D)=>(MLe h0 D/\(p<=a.length/\∀u v,u<p->v<b.length->¬w5 a b 0 1 u v),[(0,va),(1,vb),(5,vI ↑p)],[],D,a.length-p)) (0,h0) ?_ ?_
 · exact⟨mle,by omega,λu v h=>by omega⟩
 rintro⟨p,D⟩ ⟨am,ay,H⟩
 refine yX ?_;refine gc9 (λM=>?_) λM=>?_
 ·
  refine uE ?_;refine gcL (ι:=Nat×Mem) (λ(q,O)=>(MLe D O/\(q<=b.length/\∀v,v<q->¬w5 a b 0 1 p v),[(0,va),(1,vb),(5,vI ↑p),(6,vI ↑q)],[],O,b.length-q)) (0,D) ?_ ?_
  · exact⟨mle,by omega,λv h=>by omega⟩
  rintro⟨q,O⟩ ⟨ak,ax,G⟩
  refine yX ?_;refine gc9 (λJ=>?_) λJ=>?_
  ·
   refine go5 ?_;refine zK 26 _ [] [(0,.q),(1,.q),(2,.q),(3,.q),(4,.q),(5,.q),(6,.q),(7,.q),(8,.q),(9,.q),(10,.q),(11,.q),(12,.q),(13,.q),(14,.q),(15,.q),(16,.q),(17,.q),(18,.q),(19,.q),(20,.q),(21,.q),(22,.q),(23,.q),(24,.c),(25,.q)] zX nX (wJ zob) nX (λr hr=>hr) (go2 ?_);refine wX I (xI zT p underlying35 zH ra) λaw aj=>(wX I (xA zH aj) λav ai=>(go4 ?_));refine w_q I (λh' L' hh hR=>uL underlying35 I (ra.up.mono hh)) I (wB I (λ_ _=>wA I I oM oM) I (wX I (xI zT ((p+1)%a.length) underlying35 zH ra (hi:=by exact Nat.mod_lt _ oM)) λau ah=>(wX I (xA zH ah) λar ae=>(go2 ?_))));refine wX I (xI zT q underlying35 zH rb) λaq ad=>(wX I (xA zH ad) λap ac=>(go4 ?_));refine w_q I (λh' L' hh hR=>uL underlying35 I (rb.up.mono hh)) I (wB I (λ_ _=>wA I I oM oM) I (wX I (xI zT ((q+1)%b.length) underlying35 zH rb (hi:=by exact Nat.mod_lt _ oM)) λao ab=>(wX I (xA zH ab) λan aa=>?_)));refine w_c I (sC (ev4 I I I I) call175 (λw hs=>zFL hs ai ae ac aa oM) λU h1 az Z=>?_);obtain rfl:U=vI (mR (pr (a.getD p zT) 0 1) (pr (a.getD ((p+1)%a.length) zT) 0 1) (pr (b.getD q zT) 0 1) (pr (b.getD ((q+1)%b.length) zT) 0 1)):=Z;refine gc3 (λC=>?_) λC=>?_
   ·
    refine sZ ?_;refine zC I I ?_;exact(xK ⟨p,q,by omega,by omega,(zYJ.1 C)⟩).symm
   refine go8 ?_;refine gqL ((q+1),h1) ?_ ?_
   · exact⟨mle,by omega,zVI (n:=0) (Q:=w5 a b 0 1) G (λe=>C (zYJ.2 e))⟩
   omega
  refine qA ?_;refine gqL ((p+1),O) ?_ ?_
  · exact⟨mle,by omega,zSJ H G oM⟩
  omega
 refine qA ?_;refine zC I I ?_;exact(yG (λ⟨u,v,h1,h2,h3⟩=>H u v oM h2 h3)).symm
theorem zLZ{k:Nat}{vp:Value}{p:Tq}(rp:(tPt k).Is h0 vp p){vq:Value}{q:Tq}(rq:(tPt k).Is h0 vq q)(hcd0:k<=100000):
 Calls Tryz.prog 176 #[vp,vq] w0 (Ret w0 h0 (λh r=>(tPt (2*k+2)).Is h r (T3.mk (zCJ p.x q.x) (zCJ p.y q.y) (0:Rat)))):=by
 refine cb2 16 vp vq func176 hs ?_;refine go2 ?_;refine nB rp λb2 ap M=>(nB rq λb3 ao J=>(nA (ρ:=(tPt (2*k+2))) (X:=zT) yN (xN (yH oM)) λb4 an O=>(go3 ?_)));refine zK 11 _ [] [(0,.q),(1,.q),(2,.q),(3,.q),(5,.q),(6,.q),(7,.q),(8,.q),(4,.c),(9,.c),(10,.q),(11,.t)] zX nX (wJ zob) nX (λr hr=>hr) (go1 ?_);refine wX I (xB yC (Pc.tx pH) M) λv6 r6=>(go1 ?_);refine wX I (xB yC (Pc.tx pH) J) λv8 r8=>(go1 ?_);refine wX I (xB yC (Pc.ty pH) M) λaj ab=>(go1 ?_);refine wX I (xB yC (Pc.ty pH) J) λai aa=>?_;refine w_c I (sC (ev2 I I) call203 (λw hs=>zFI hs r6 r8 oM) λv9 h1 am U=>?_);replace U:=Rp.Is.le U (Le.q (l:=2*k+2) oM);refine w_c I (sC (ev2 I I) call203 (λw hs=>zFI hs ab.up aa.up oM) λah h2 ak C=>?_);replace C:=Rp.Is.le C (Le.q (l:=2*k+2) oM);refine wX I (xV (ρ:=(tPt (2*k+2))) (wD (ps':=[(0,_),(1,_)]) underlying31 yN I I sizeOf29 e4z I (xN (yH oM)) (zD I (Pc.tx (Pc.here _)) U.up (zD I (Pc.ty (Pc.here _)) C zO)))) λae Z=>(yJ (A:=[]) I (uB sizeOf31 pH O Z) λac H=>(go3 ?_));refine wT (kE (t:=4) zH mh0 I H) ?_;intro ad D G;refine yW (λE S=>zW I D E S) ?_;exact G
theorem zDC{k:Nat}{va:Value}{a:(List Tq)}(ra:(tLs k).Is h0 va a){vb:Value}{b:(List Tq)}(rb:(tLs k).Is h0 vb b)(hcd0:k<=2000)(hcd1:a.length<=1000)(hcd2:b.length<=1000):
 Calls Tryz.prog 133 #[va,vb] w0 (Ret w0 h0 (λ_ r=>r=vI (wiZ a b 0 1))):=by
 refine cb2 32 va vb func133 hs ?_;refine mF ?_;refine gcL (ι:=Nat×Mem) (λ(m,ma)=>(MLe h0 ma/\(m<=b.length),[(0,va),(1,vb),(5,vI (pP a b 0 1 m)),(6,vI ↑m)],[],ma,b.length-m)) (0,h0) ?_ ?_
 · exact⟨mle,oM⟩
 rintro⟨m,ma⟩ ⟨ab,D⟩
 refine yX ?_;have ak:=D;have aj:=mP a b 0 1 m;refine gc9 (λG=>?_) λG=>?_
 ·
  refine go5 ?_;refine zK 16 _ [] [(0,.q),(1,.q),(2,.q),(3,.q),(4,.q),(5,.q),(6,.q),(7,.q),(8,.q),(9,.q),(10,.q),(11,.q),(12,.q),(13,.c),(14,.c),(15,.q)] zX nX (wJ zob) nX (λr hr=>hr) (go3 ?_);refine wX I (xI zT m underlying35 zH rb) λai aa=>(wX I (xA zH aa) λah Z=>(go4 ?_));refine w_q I (λh' L' hh hR=>uL underlying35 I (rb.up.mono hh)) I (wB I (λ_ _=>wA I I oM oM) I (wX I (xI zT ((m+1)%b.length) underlying35 zH rb (hi:=by exact Nat.mod_lt _ oM)) λae U=>(wX I (xA zH U) λad O=>?_)));refine w_c I (sC (ev2 I I) call176 (λw hs=>zLZ hs Z O oM) λac h1 an M=>?_);refine w_c I (sC (ev2 I I) call150 (λw hs=>zDD hs (ra.up.le (Le.s (Le.t (Le.q (l:=2*k+2) oM)))) M oM oM) λH h2 am J=>?_);obtain rfl:H=vI (gW a (pr (T3.mk (zCJ (b.getD m zT).x (b.getD ((m+1)%b.length) zT).x) (zCJ (b.getD m zT).y (b.getD ((m+1)%b.length) zT).y) (0:Rat)) 0 1) 0 1):=J;refine gc3 (λC=>?_) λC=>?_
  ·
   refine uS ?_;refine gqL ((m+1),h2) ?_ ?_ (he:=⟨I,I,congrArg (λz=>some (vI z)) (yDW (yC5 _ _) C),I,trivial⟩)
   · exact⟨mle,oM⟩
   omega
  refine go8 ?_;refine gqL ((m+1),h2) ?_ ?_ (he:=⟨I,I,congrArg (λz=>some (vI z)) (yDX (yC5 _ _) C),I,trivial⟩)
  · exact⟨mle,oM⟩
  omega
 refine uS ?_;refine zC I I ?_;have em:m=b.length:=by omega
 subst em
 rfl
theorem zLY{k:Nat}{vL:Value}{L:(List (List Tq))}(rL:(tLL k).Is h0 vL L){f:Nat}(hcd0:f<L.length)(hcd1:L.length<=16)(hcd2:k<=2000)(hcd3:∀u,u<L.length->¬64<(gl L u).length):
 Calls Tryz.prog 132 #[vL,vI ↑f] w0 (Ret w0 h0 (λ_ r=>r=vI (tT L 0 1 f L.length))):=by
 have M:=hcd3;refine cb2 55 vL (vI ↑f) func132 hs ?_;refine mF ?_;refine gcL (ι:=Nat×Mem) (λ(g,ma)=>(MLe h0 ma/\(g<=L.length),[(0,vL),(1,vI ↑f),(5,vI (tT L 0 1 f g)),(6,vI ↑g)],[],ma,L.length-g)) (0,h0) ?_ ?_
 · exact⟨mle,oM⟩
 rintro⟨g,ma⟩ ⟨ba,bx⟩
 refine yX ?_;have bq:=zCB L 0 1 f g;refine gc9 (λJ=>?_) λJ=>?_
 ·
  refine go6 ?_;refine zK 24 _ [] [(0,.q),(1,.q),(2,.q),(3,.q),(4,.c),(5,.c),(6,.q),(7,.q),(8,.q),(9,.q),(10,.q),(11,.q),(12,.q),(13,.q),(14,.q),(15,.q),(17,.q),(18,.q),(19,.q),(20,.q),(21,.q),(16,.c),(22,.q),(23,.q)] zX nX (wJ zob) nX (λr hr=>hr) (go2 ?_);refine wX I (xI [] g underlying76 vY rL) λbp aw=>(wX I (xA vY aw) λbo av=>?_);refine w_c I (sC (ev1 I) call131 (λw hs=>pO hs av oM (by first|omega|exact Nat.le_trans (Nat.not_lt.1 (M _ oM)) dC|exact Nat.le_trans (hF _ oM) dC)) λbn h1 bw au=>?_);refine w_c I (sC (ev1 I) call48 (λw hs=>vM hs au dC) λZ h2 bv ar=>?_);obtain rfl:Z=vI (yR (uQ (L.getD g []) 0 1 (L.getD g []).length)):=ar;have ay:=yV (uQ (L.getD g []) 0 1 (L.getD g []).length);refine go2 ?_;refine jB ((yR (uQ (L.getD g []) 0 1 (L.getD g []).length))<=(0:Int)) (λG=>?_) (λG=>?_)
  ·
   rw[xK G];refine sR ?_;refine w_c I (lT I I I I (tU ?_));refine gqL ((g+1),h2) ?_ ?_ (he:=⟨I,I,congrArg (λz=>some (vI z)) ((if_neg (λe=>absurd e.1.1 (Int.not_lt.2 zol))).symm),I,trivial⟩)
   · exact⟨mle,oM⟩
   omega
  rw[yG G];refine yL I I I (λh' L' hh hR=>yU I) I (yL I I I (λh' L' hh hR=>yU I) I (oX I (xI [] g underlying76 vY rL) λbm aq=>(oX I (xA vY aq) λbl ap=>(yL I I I (λh' L' hh hR=>yU I) I (yL I I I (λh' L' hh hR=>yU I) I (oX I (xI [] f underlying76 vY rL) λbk ao=>(oX I (xA vY ao) λbj an=>(yL I I I (λh' L' hh hR=>yU I) I (yL I I I (λh' L' hh hR=>yU I) I (oX I (xI [] f underlying76 vY rL) λbi ak=>(oX I (xA vY ak) λbh aj=>(yL I I I (λh' L' hh hR=>uL underlying35 I (aj.mono hh)) I ?_))))))))))));refine w_c I (mT I I (sC (ev2 I I) call133 (λw hs=>zDC hs ap an oM (by first|omega|exact Nat.le_trans (Nat.not_lt.1 (M _ oM)) dC|exact Nat.le_trans (hF _ oM) dC) (by first|omega|exact Nat.le_trans (Nat.not_lt.1 (M _ oM)) dC|exact Nat.le_trans (hF _ oM) dC)) λU h3 bu am=>?_));obtain rfl:U=vI (wiZ (L.getD g []) (L.getD f []) 0 1):=am;have ax:=mP (L.getD g []) (L.getD f []) 0 1 (L.getD f []).length;refine gc4 (λC=>?_) λC=>?_
  ·
   refine go9 ?_;refine gqL ((g+1),h3) ?_ ?_ (he:=⟨I,I,congrArg (λz=>some (vI z)) ((if_neg (λe=>C e.1.2)).symm),I,trivial⟩)
   · exact⟨mle,oM⟩
   omega
  refine go3 ?_;refine zK 16 _ [] [(0,.q),(1,.q),(2,.q),(3,.q),(4,.q),(5,.q),(6,.q),(8,.q),(9,.q),(10,.q),(11,.q),(7,.c),(12,.c),(13,.c),(14,.q),(15,.q)] zX nX (wJ zob) nX (λr hr=>hr) (go3 ?_);refine jB ((tT L 0 1 f g)<(0:Int)) (λD=>?_) (λD=>?_)
  ·
   rw[xK D];refine go8 ?_;refine w_c I (lT I I I I ?_);refine w_c I (lT I I I I ?_);refine w_c I (lT I I I I (dT ?_));refine gqL ((g+1),h3) ?_ ?_ (he:=⟨I,I,congrArg (λz=>some (vI z)) ((if_pos ⟨⟨Int.not_le.1 zol,Classical.not_not.1 C⟩,.inl zol⟩).symm),I,trivial⟩)
   · exact⟨mle,oM⟩
   omega
  rw[yG D];refine yL I I I (λh' L' hh hR=>yU I) I (yL I I I (λh' L' hh hR=>yU I) I (oX I (xI [] g underlying76 vY rL) λbg ai=>(oX I (xA vY ai) λbf ah=>(yL I I I (λh' L' hh hR=>yU I) I (yL I I I (λh' L' hh hR=>yU I) I (oX I (xI [] ((tT L 0 1 f g).toNat) underlying76 vY rL) λbd ad=>(oX I (xA vY ad) λbc ac=>?_)))))));refine w_c I (mT I I (sC (ev1 I) call131 (λw hs=>pO hs ah oM (by first|omega|exact Nat.le_trans (Nat.not_lt.1 (M _ oM)) dC|exact Nat.le_trans (hF _ oM) dC)) λbe h4 bt ae=>?_));refine w_c I (mT I I (sC (ev1 I) call131 (λw hs=>pO hs ac.up oM (by first|omega|exact Nat.le_trans (Nat.not_lt.1 (M _ oM)) dC|exact Nat.le_trans (hF _ oM) dC)) λbb h5 bs ab=>?_));refine w_c I (mT I I (sC (ev2 I I) call17 (λw hs=>fZ hs ae.up ab dC) λO h6 br aa=>?_));obtain rfl:O=vI (xT (uQ (L.getD g []) 0 1 (L.getD g []).length) (uQ (L.getD ((tT L 0 1 f g).toNat) []) 0 1 (L.getD ((tT L 0 1 f g).toNat) []).length)):=aa;have az:=qV (uQ (L.getD g []) 0 1 (L.getD g []).length) (uQ (L.getD ((tT L 0 1 f g).toNat) []) 0 1 (L.getD ((tT L 0 1 f g).toNat) []).length);refine gc4 (λH=>?_) λH=>?_
  ·
   refine qA ?_;refine gqL ((g+1),h6) ?_ ?_ (he:=⟨I,I,congrArg (λz=>some (vI z)) ((if_pos ⟨⟨Int.not_le.1 zol,Classical.not_not.1 C⟩,.inr H⟩).symm),I,trivial⟩)
   · exact⟨mle,oM⟩
   omega
  refine go8 ?_;refine gqL ((g+1),h6) ?_ ?_ (he:=⟨I,I,congrArg (λz=>some (vI z)) ((if_neg (λe=>e.2.elim (λh=>absurd h zol) H)).symm),I,trivial⟩)
  · exact⟨mle,oM⟩
  omega
 refine uS ?_;refine zC I I ?_;have eg:g=L.length:=by omega
 rw[eg]
end
set_option maxHeartbeats 2000000 in
section
variable{w0:World}{h0:Mem}(hs:MLe h0 (mem w0))
include hs
theorem zH3{k:Nat}{vL:Value}{L:(List (List Tq))}(rL:(tLL k).Is h0 vL L)(hcd0:k<=2000)(hcd1:∀x,x∈L->cJ x):
 Calls Tryz.prog 85 #[vL] w0 (Ret w0 h0 (λh r=>∃u0,r=.tuple #[u0,vI (vZ L 0 1)]/\(rpS rpI).Is h u0 (sD L 0 1))):=by
 have hF:=hcd1;refine cb1 133 vL func85 hs ?_;refine tU ?_;refine cnd (λbv=>?_) λbv=>?_
 ·
  refine go8 ?_;refine wH I I I ?_;refine⟨_,?_,(Rp.Is.cast (oN _) (by exact(show vZ L 0 1=2/\sD L 0 1=[] from zJY (.inl oM)).2.symm))⟩;rw[(show vZ L 0 1=2/\sD L 0 1=[] from zJY (.inl oM)).1]
 refine go9 ?_;refine gcL (ι:=Nat×Mem) (λ(q,ma)=>(MLe h0 ma/\(q<=L.length/\∀u,u<q->¬64<(gl L u).length),[(0,vL),(4,vI ↑q)],[],ma,L.length-q)) (0,h0) ?_ ?_
 · exact⟨mle,by omega,λu h=>by omega⟩
 rintro⟨q,ma⟩ ⟨ec,fc,bg⟩
 refine yX ?_;refine gc9 (λbu=>?_) λbu=>?_
 ·
  refine go8 ?_;refine lX (xI [] q underlying76 vY rL) λeu da=>(lX (xA vY da) λes ev=>(gc4 (λbt=>?_) λbt=>?_))
  ·
   refine uS ?_;refine wH I I I ?_;refine⟨_,?_,(Rp.Is.cast (oN _) (by exact(show vZ L 0 1=2/\sD L 0 1=[] from zJY (.inr ⟨q,by omega,(by show 64<(L.getD q []).length;omega)⟩)).2.symm))⟩;rw[(show vZ L 0 1=2/\sD L 0 1=[] from zJY (.inr ⟨q,by omega,(by show 64<(L.getD q []).length;omega)⟩)).1]
  refine go8 ?_;refine gqL ((q+1),ma) ?_ ?_
  · exact⟨mle,by omega,xR (Q:=λu=>¬64<(gl L u).length) bg (by show ¬64<(L.getD q []).length;omega)⟩
  omega
 have D:∀u,u<L.length->¬64<(gl L u).length:=λu hu=>bg u oM;refine uS ?_;refine gcL (ι:=Nat×Mem) (λ(s,ms)=>(MLe ma ms/\(s<=L.length/\∀u,u<s->aE (gl L u) 0 1),[(0,vL),(5,vI ↑s)],[],ms,L.length-s)) (0,ma) ?_ ?_
 · exact⟨mle,by omega,λu h=>by omega⟩
 rintro⟨s,ms⟩ ⟨dx,fb,bf⟩
 refine yX ?_;refine gc9 (λbs=>?_) λbs=>?_
 ·
  refine go8 ?_;refine lX (xI [] s underlying76 vY rL) λer cz=>(lX (xA vY cz) λeq cy=>(cL (ev1 I) call129 (λw hs=>zLX hs cy oM (by first|omega|assumption|exact Nat.le_trans (Nat.not_lt.1 (D _ oM)) dC)) λce h1 M cw=>?_));obtain rfl:ce=vB (aE (L.getD s []) 0 1):=cw;refine gc3 (λaa=>?_) λaa=>?_
  ·
   refine uS ?_;refine wH I I I ?_;refine⟨_,?_,(Rp.Is.cast (oN _) (by exact(show vZ L 0 1=8/\sD L 0 1=[] from zWX oM D ⟨s,by omega,aa⟩).2.symm))⟩;rw[(show vZ L 0 1=8/\sD L 0 1=[] from zWX oM D ⟨s,by omega,aa⟩).1]
  refine go8 ?_;refine gqL ((s+1),h1) ?_ ?_
  · exact⟨mle,by omega,xR (Q:=λu=>aE (gl L u) 0 1) bf (Classical.not_not.1 aa)⟩
  omega
 have hS:∀u,u<L.length->aE (gl L u) 0 1:=λu hu=>bf u oM;refine uS ?_;refine gcL (ι:=Nat×Mem) (λ(c,mc)=>(MLe ms mc/\(c<=L.length/\∀u v,v<c->u<v->¬gK (gl L u) (gl L v) 0 1),[(0,vL),(6,vI ↑c)],[],mc,L.length-c)) (0,ms) ?_ ?_
 · exact⟨mle,by omega,λu v h=>by omega⟩
 rintro⟨c,mc⟩ ⟨eb,ed,ak⟩
 refine yX ?_;refine gc9 (λbr=>?_) λbr=>?_
 ·
  refine uE ?_;refine gcL (ι:=Nat×Mem) (λ(d,md)=>(MLe mc md/\(d<=c/\∀u,u<d->¬gK (gl L u) (gl L c) 0 1),[(0,vL),(6,vI ↑c),(7,vI ↑d)],[],md,c-d)) (0,mc) ?_ ?_
  · exact⟨mle,by omega,λu h=>by omega⟩
  rintro⟨d,md⟩ ⟨ea,ff,bl⟩
  refine yX ?_;refine gc8 (λbq=>?_) λbq=>?_
  ·
   refine go5 ?_;refine zK 9 _ [] [(0,.q),(1,.q),(2,.q),(3,.q),(4,.q),(5,.q),(6,.q),(7,.q),(8,.c)] zX nX zob nX (λr hr=>hr) (go2 ?_);refine wX I (xI [] c underlying76 vY rL) λep cu=>(wX I (xA vY cu) λeo ct=>(go2 ?_));refine wX I (xI [] d underlying76 vY rL) λen cq=>(wX I (xA vY cq) λem cp=>?_);refine w_c I (sC (ev2 I I) call130 (λw hs=>zJR hs ct cp oM (by first|omega|assumption|exact Nat.le_trans (Nat.not_lt.1 (D _ oM)) dC) (by first|omega|assumption|exact Nat.le_trans (Nat.not_lt.1 (D _ oM)) dC)) λcd h1 M co=>?_);obtain rfl:cd=vB (gK (L.getD c []) (L.getD d []) 0 1):=co;refine gc2 (λZ=>?_) λZ=>?_
   ·
    refine dT ?_;refine wH I I I ?_;refine⟨_,?_,(Rp.Is.cast (oN _) (by exact(show vZ L 0 1=32/\sD L 0 1=[] from zQN oM D hS ⟨d,c,by omega,by omega,oU Z⟩).2.symm))⟩;rw[(show vZ L 0 1=32/\sD L 0 1=[] from zQN oM D hS ⟨d,c,by omega,by omega,oU Z⟩).1]
   refine go8 ?_;refine gqL ((d+1),h1) ?_ ?_
   · exact⟨mle,by omega,xR (Q:=λu=>¬gK (gl L u) (gl L c) 0 1) bl (λe=>Z (oU e))⟩
   omega
  refine qA ?_;refine gqL ((c+1),md) ?_ ?_
  · exact⟨mle,by omega,zUF ak bl oM⟩
  omega
 have hX:∀a b,b<L.length->a<b->¬gK (gl L a) (gl L b) 0 1:=λa b hb ha=>ak a b oM ha;refine mF ?_;refine xM 3 1 ?_;have au:=RL.nil (ρ:=rpI) (h:=mc);refine gcL (ι:=Nat×List Int×Value×List Value×Mem) (λ(f,H,C,G,mf)=>(MLe mc mf/\(RL rpI mf G H/\(f<=L.length/\H.length=f)/\∀u,u<f->H.getD u (0:Int)=pZ L 0 1 u),[(0,vL),(8,C),(9,vI ↑f)],[.gs 3 1 C H.length G],mf,L.length-f)) (0,([]:List Int),(.slice none 0 0),[],mc) ?_ ?_
 · exact⟨mle,au,⟨by omega,I⟩,λu h=>by omega⟩
 rintro⟨f,H,C,G,mf⟩ ⟨dz,J,⟨fe,bk⟩,ao⟩
 refine yX ?_;refine gc9 (λbp=>?_) λbp=>?_
 ·
  refine go9 ?_;refine jG (ι:=Int×Mem) (λ(p,mp)=>MLe mf mp/\((-1<=p/\p<9223372036854775808)/\p=pZ L 0 1 f)) (λ(p,mp)=>[(0,vL),(8,C),(9,vI ↑f),(10,vI p)]) (λ(p,mp)=>[.gs 3 1 C H.length G]) (λ(p,mp)=>mp) ?_ ?_
  ·
   refine go4 ?_;refine lX (xI [] f underlying76 vY rL) λel cn=>(lX (xA vY cn) λek cm=>(cL (ev1 I) call131 (λw hs=>pO hs cm oM (by first|omega|assumption|exact Nat.le_trans (Nat.not_lt.1 (D _ oM)) dC)) λej h1 M cl=>(cL (ev1 I) call48 (λw hs=>vM hs cl dC) λcc h2 an ck=>?_)));obtain rfl:cc=vI (yR (uQ (L.getD f []) 0 1 (L.getD f []).length)):=ck;have dh:=yV (uQ (L.getD f []) 0 1 (L.getD f []).length);refine gc3 (λae=>?_) λae=>?_
   ·
    refine go3 ?_;refine cL (ev2 I I) call132 (λw hs=>zLY (f:=f) hs rL.up (by first|omega|assumption|exact Nat.le_trans (Nat.not_lt.1 (D _ oM)) dC) (by first|omega|assumption|exact Nat.le_trans (Nat.not_lt.1 (D _ oM)) dC) oM (by first|omega|assumption|exact Nat.le_trans (Nat.not_lt.1 (D _ oM)) dC)) λcb h3 bj cj=>?_;obtain rfl:cb=vI (tT L 0 1 f L.length):=cj;have di:=zCB L 0 1 f L.length;refine go2 ?_;refine zR ((tT L 0 1 f L.length),h3) ?_ e4z I I;refine⟨((M.trans an).trans bj),?_⟩;exact⟨⟨by omega,by omega⟩,yF1 ae⟩
   refine go1 ?_;refine zR ((-1:Int),h2) ?_ e4z I I;refine⟨(M.trans an),?_⟩;exact⟨⟨by omega,by omega⟩,yF0 hF (hS f oM) ae⟩
  rintro⟨p,mp⟩ ⟨dy,bm⟩
  refine yX ?_;obtain⟨fd,bh⟩:=bm;refine go3 ?_;refine zI (zL (ρ:=rpI) (m:=1) (xs:=[p]) (ps':=[(0,_)]) underlying22 jX I I I wL e2z (zD I (Pc.arr (Pc.here _) (0:Int) 0 dC) (wI oM oM) zO) (show 1*1<=16777216 from by decide) nP) I I I ?_
  rintro ei ey ⟨ee,rfl,aw⟩
  refine zS (A:=[]) (ρ:=rpI) aw ?_;intro h1 M ar;refine xS (A:=[]) (zV (ρ:=rpI) (bytes:=8) underlying22 jX I I I I nP I I J.up ar bO bO) I I I ?_
  rintro ca ew ⟨bw,rfl,av⟩
  refine go9 ?_;refine gqL ((f+1),(H++[p]),ca,bw,h1) ?_ ?_
  · exact⟨mle,av,⟨by omega,(zIM bk ao bh).1⟩,(zIM bk ao bh).2⟩
  omega
 have hO:∀u,u<L.length->H.getD u (0:Int)=pZ L 0 1 u:=λu hu=>ao u oM;have bi:H.length=L.length:=by omega
 refine uS ?_;refine gcL (ι:=Nat×Mem) (λ(v,am)=>(MLe mf am/\(v<=L.length/\∀a,a<v->¬eE L 0 1 a/\∀b,b<L.length->¬zB4 L 0 1 a b),[(0,vL),(8,C),(11,vI ↑v)],[.gs 3 1 C H.length G],am,L.length-v)) (0,mf) ?_ ?_
 · exact⟨mle,by omega,λa h=>by omega⟩
 rintro⟨v,am⟩ ⟨dj,fa,ai⟩
 refine yX ?_;refine gc9 (λbo=>?_) λbo=>?_
 ·
  refine go9 ?_;refine lX (xI [] v underlying76 vY rL) λeh ci=>(lX (xA vY ci) λeg ch=>(cL (ev1 I) call131 (λw hs=>pO hs ch oM (by first|omega|assumption|exact Nat.le_trans (Nat.not_lt.1 (D _ oM)) dC)) λef h1 M cg=>(cL (ev1 I) call48 (λw hs=>vM hs cg dC) λbz h2 an cf=>?_)));obtain rfl:bz=vI (yR (uQ (L.getD v []) 0 1 (L.getD v []).length)):=cf;have df:=yV (uQ (L.getD v []) 0 1 (L.getD v []).length);refine gc3 (λU=>?_) λU=>?_
  ·
   refine go9 ?_;refine gqL ((v+1),h2) ?_ ?_
   · exact⟨mle,by omega,xR (Q:=λa=>¬eE L 0 1 a/\∀b,b<L.length->¬zB4 L 0 1 a b) ai (yGB (yG8 hF (hS v oM) U))⟩
   omega
  refine go8 ?_;refine gcL (ι:=Nat×Mem) (λ(w,mw)=>(MLe h2 mw/\((w<=L.length/\(0<w->¬eE L 0 1 v))/\∀b,b<w->¬zB4 L 0 1 v b),[(0,vL),(8,C),(11,vI ↑v),(12,vI ↑w)],[.gs 3 1 C H.length G],mw,L.length-w)) (0,h2) ?_ ?_
  · exact⟨mle,⟨by omega,λh=>by omega⟩,λb h=>by omega⟩
  rintro⟨w,mw⟩ ⟨dw,⟨ez,db⟩,ah⟩
  refine yX ?_;refine gc9 (λbn=>?_) λbn=>?_
  ·
   refine go5 ?_;refine zK 33 _ [] [(0,.q),(1,.q),(2,.q),(3,.q),(4,.q),(5,.q),(6,.q),(7,.q),(8,.q),(9,.q),(10,.q),(11,.q),(12,.q),(13,.q),(14,.q),(15,.q),(16,.q),(17,.q),(18,.q),(19,.q),(20,.q),(21,.q),(22,.q),(23,.q),(24,.q),(25,.q),(26,.q),(27,.q),(28,.q),(29,.c),(30,.q),(31,.q),(32,.q)] zX nX (wJ zob) nX (λr hr=>hr) (go2 ?_);refine w_q I (λh' L' hh hR=>(xO v (hR _ mh0) underlying22 sizeOf3 I I I bO nP).cv (show _=zM 1 C ((v*1+0)) from congrArg (zM 1 C) zok)) I (nK (F:=λv_=>rpI.Is mw v_ (H.getD v (0:Int))) I (wZ ty3 (Pc.arr (Pc.here _) (0:Int) v bO) I nP I J.up I) (sW mh0) I ?_);intro dv be;obtain⟨rfl,dm,de⟩:=kJ be;refine go2 ?_;refine jB ((H.getD v (0:Int))<(0:Int)) (λad=>?_) (λad=>?_)
   ·
    rw[xK ad];refine go23 ?_;refine w_c I (yFQ I I I (go22 ?_));refine wH I I I ?_;refine⟨_,?_,(Rp.Is.cast (oN _) (by exact(show vZ L 0 1=33/\sD L 0 1=[] from zD4 oM D hS hX (.inl ⟨v,by omega,zQX U (hO v oM) zol⟩)).2.symm))⟩;rw[(show vZ L 0 1=33/\sD L 0 1=[] from zD4 oM D hS hX (.inl ⟨v,by omega,zQX U (hO v oM) zol⟩)).1]
   rw[yG ad];refine yL I I I (λh' L' hh hR=>yU I) I (yL I I I (λh' L' hh hR=>yU I) I (go1 ?_));refine yL I I I (λh' L' hh hR=>yU I) I ?_;refine jB ((↑w:Int)≠(↑v:Int)) (λac=>?_) (λac=>?_)
   ·
    rw[xK ac];refine yL I I I (λh' L' hh hR=>yU I) I (yL I I I (λh' L' hh hR=>yU I) I (yL I I I (λh' L' hh hR=>(xO w (hR _ mh0) underlying22 sizeOf3 I I I bO nP).cv (show _=zM 1 C ((w*1+0)) from congrArg (zM 1 C) zok)) I (lO (F:=λv_=>rpI.Is mw v_ (H.getD w (0:Int))) I I I (wZ ty3 (Pc.arr (Pc.here _) (0:Int) w bO) I nP I J.up I) (sW mh0) I ?_)));intro du bd;obtain⟨rfl,dl,dd⟩:=kJ bd;refine yL I I I (λh' L' hh hR=>yU I) I (yL I I I (λh' L' hh hR=>yU I) I (yL I I I (λh' L' hh hR=>(xO v (hR _ mh0) underlying22 sizeOf3 I I I bO nP).cv (show _=zM 1 C ((v*1+0)) from congrArg (zM 1 C) zok)) I (lO (F:=λv_=>rpI.Is mw v_ (H.getD v (0:Int))) I I I (wZ ty3 (Pc.arr (Pc.here _) (0:Int) v bO) I nP I J.up I) (sW mh0) I ?_)));intro dt bc;obtain⟨rfl,dk,dc⟩:=kJ bc;refine go2 ?_;refine yL I I I (λh' L' hh hR=>yU I) I ?_;refine jB ((H.getD w (0:Int))=(H.getD v (0:Int))) (λab=>?_) (λab=>?_)
    ·
     rw[xK ab];refine yL I I I (λh' L' hh hR=>yU I) I (yL I I I (λh' L' hh hR=>yU I) I (oX I (xI [] w underlying76 vY rL) λdr bb=>(oX I (xA vY bb) λdq ba=>(yL I I I (λh' L' hh hR=>yU I) I (yL I I I (λh' L' hh hR=>yU I) I (oX I (xI [] v underlying76 vY rL) λdp az=>(oX I (xA vY az) λdn ay=>?_)))))));refine w_c I (mT I I (sC (ev2 I I) call133 (λw hs=>zDC hs ba ay oM (by first|omega|assumption|exact Nat.le_trans (Nat.not_lt.1 (D _ oM)) dC) (by first|omega|assumption|exact Nat.le_trans (Nat.not_lt.1 (D _ oM)) dC)) λap h3 bj ax=>?_));obtain rfl:ap=vI (wiZ (L.getD w []) (L.getD v []) 0 1):=ax;have bx:=mP (L.getD w []) (L.getD v []) 0 1 (L.getD v []).length;refine gc5 (λO=>?_) λO=>?_
     ·
      have aj:zB4 L 0 1 v w:=⟨⟨⟨by omega,by have:=zA7 (hO v oM) zol;rw[<-hO v oM];omega⟩,by rw[<-hO w oM,<-hO v oM];assumption⟩,O⟩;refine dT ?_;refine wH I I I ?_;refine⟨_,?_,(Rp.Is.cast (oN _) (by exact(show vZ L 0 1=33/\sD L 0 1=[] from zD4 oM D hS hX (.inr ⟨v,w,by omega,by omega,aj⟩)).2.symm))⟩;rw[(show vZ L 0 1=33/\sD L 0 1=[] from zD4 oM D hS hX (.inr ⟨v,w,by omega,by omega,aj⟩)).1]
     refine go8 ?_;refine gqL ((w+1),h3) ?_ ?_
     · exact⟨mle,⟨by omega,λ_=>zA7 (hO v oM) zol⟩,xR (Q:=λb=>¬zB4 L 0 1 v b) ah (λe=>O e.2)⟩
     omega
    rw[yG ab];refine go8 ?_;refine w_c I (lT I I I I (tU ?_));refine gqL ((w+1),mw) ?_ ?_
    · exact⟨mle,⟨by omega,λ_=>zA7 (hO v oM) zol⟩,xR (Q:=λb=>¬zB4 L 0 1 v b) ah (λe=>absurd e.1.2 (by rw[<-hO w oM,<-hO v oM];assumption))⟩
    omega
   rw[yG ac];refine uE ?_;refine yL I I I (λh' L' hh hR=>yU I) I (go8 ?_);refine w_c I (lT I I I I (tU ?_));refine gqL ((w+1),mw) ?_ ?_
   · exact⟨mle,⟨by omega,λ_=>zA7 (hO v oM) zol⟩,xR (Q:=λb=>¬zB4 L 0 1 v b) ah (λe=>absurd e.1.1.1 oM)⟩
   omega
  refine qA ?_;refine gqL ((v+1),mw) ?_ ?_
  · exact⟨mle,by omega,xR (Q:=λa=>¬eE L 0 1 a/\∀b,b<L.length->¬zB4 L 0 1 a b) ai ⟨db oM,λb hb=>ah b oM⟩⟩
  omega
 have hB:∀a b,a<L.length->b<L.length->¬zB4 L 0 1 a b:=λa b ha hb=>(ai a oM).2 b hb;have hL:∀a,a<L.length->¬eE L 0 1 a:=λa ha=>(ai a oM).1;refine sR ?_;refine wO (A:=[]) (ρ:=rpI) J.up ?_;intro h1 M aq;refine wH I I I ?_;refine⟨_,?_,(Rp.Is.cast aq (by exact(show vZ L 0 1=0/\sD L 0 1=H from zWY oM D hS hX hL hB bi hO).2.symm))⟩;rw[(show vZ L 0 1=0/\sD L 0 1=H from zWY oM D hS hX hL hB bi hO).1]
theorem zA1{m l k:Nat}{vs:Value}{s:Pq}(rs:(tPl m l).Is h0 vs s){vp:Value}{p:Tq}(rp:(tPt k).Is h0 vp p)(hcd0:k<=100000000)(hcd1:l<=100000000)(hcd2:m<=100000000):
 Calls Tryz.prog 147 #[vs,vp] w0 (Ret w0 h0 (λ_ r=>r=vI (sdZ s p))):=by
 refine cb2 12 vs vp func147 hs ?_;refine go2 ?_;refine nB rs λb2 ad C=>(nB rp λb3 ac G=>(go4 ?_));refine zK 8 _ [] [(0,.q),(1,.q),(2,.q),(4,.q),(5,.q),(3,.c),(6,.c),(7,.q)] zX nX zob nX (λr hr=>hr) (go1 ?_);refine wX I (xB zH (Pc.fst pH) C) λv6 r6=>(wX I (xB zH pH G) λv7 Z=>(go1 ?_));refine wX I (xB yC (Pc.snd pH) C) λU M=>?_;refine w_c I (sC (ev2 I I) call120 (λw hs=>zD3 hs r6 Z oM) λv8 h1 ab H=>?_);replace H:=Rp.Is.le H (Le.q (l:=3*k+3*m+9) oM);refine w_c I (sC (ev2 I I) call182 (λw hs=>aN hs H M.up oM) λD h2 aa J=>?_);obtain rfl:D=vI (xT (xE s.1 p) s.2):=J;have O:=qV (xE s.1 p) s.2;refine go4 ?_;refine zC I I ?_;exact congrArg vI (zU0 s p)
theorem zS8{m l k:Nat}{vs:Value}{s:Pq}(rs:(tPl m l).Is h0 vs s){vp:Value}{p:Tq}(rp:(tPt k).Is h0 vp p)(hcd0:k<=100000000)(hcd1:l<=100000000)(hcd2:m<=100000000):
 Calls Tryz.prog 108 #[vs,vp] w0 (Ret w0 h0 (λ_ r=>r=vI (sdZ s p))):=by
 refine cb2 61 vs vp func108 hs ?_;refine go2 ?_;refine nB rs λb2 cz D=>(nB rp λb3 cy H=>(sZ ?_));refine fO (go2 ?_);refine gv (OpV.tr dC (yI (q:=3) I I)) I (zPO ?_);refine lX (xB yC (Pc.fst (Pc.tx pH)) D) λck bg=>(cL (ev1 I) call146 (λw hs=>tA hs bg) λch h1 cw bd=>?_);obtain rfl:=bd;refine qA ?_;refine lX (xB yC (Pc.tx pH) H) λce ba=>(cL (ev1 I) call146 (λw hs=>tA hs ba) λcb h2 cu ax=>?_);obtain rfl:=ax;refine uS ?_;refine gU 4 36 (vB ((¬(smB s.1.x))\/(¬(smB p.x)))) ?_ ?_
 ·
  refine zY (¬(smB s.1.x)) (λG=>?_) (λG=>?_)
  ·
   refine gT G I (go4 ?_);refine gqU ?_;exact congrArg some (vH G)
  refine gF G I (go6 ?_);refine gqU ?_;exact congrArg some (vJ G)
 refine gc2 (λC=>?_) λC=>?_
 ·
  refine go2 ?_;refine lX (xB bZ pH D) λbx au=>(lX (xB zH pH H) λbu ap=>(cL (ev2 I I) call147 (λw hs=>zA1 hs au ap oM oM oM) λaa h3 co am=>?_));obtain rfl:aa=vI (sdZ s p):=am;have bl:=bG s p;refine uE ?_;refine zC I I ?_
  rfl
 obtain⟨bh,bn⟩:=zJB C;refine go6 ?_;refine gv (kU I I oM oM) I (go6 ?_);refine gv ((zQ (q:=1) I I oM oM).cv (show _=vI (1) from I)) I (go2 ?_);refine wG (go2 ?_);refine gv (OpV.tr dC (yI (q:=3) I I)) I (zPO ?_);refine lX (xB yC (Pc.fst (Pc.ty pH)) D) λcj bf=>(cL (ev1 I) call146 (λw hs=>tA hs bf) λcg h3 co bc=>?_);obtain rfl:=bc;refine qA ?_;refine lX (xB yC (Pc.ty pH) H) λcd az=>(cL (ev1 I) call146 (λw hs=>tA hs az) λca h4 ct aw=>?_);obtain rfl:=aw;refine uS ?_;refine gU 4 36 (vB ((¬(smB s.1.y))\/(¬(smB p.y)))) ?_ ?_
 ·
  refine zY (¬(smB s.1.y)) (λG=>?_) (λG=>?_)
  ·
   refine gT G I (go4 ?_);refine gqU ?_;exact congrArg some (vH G)
  refine gF G I (go6 ?_);refine gqU ?_;exact congrArg some (vJ G)
 refine gc2 (λC=>?_) λC=>?_
 ·
  refine go2 ?_;refine lX (xB bZ pH D) λbw ar=>(lX (xB zH pH H) λbt ao=>(cL (ev2 I I) call147 (λw hs=>zA1 hs ar ao oM oM oM) λZ h5 cn ak=>?_));obtain rfl:Z=vI (sdZ s p):=ak;have bk:=bG s p;refine uE ?_;refine zC I I ?_
  rfl
 obtain⟨bh,bn⟩:=zJB C;refine go6 ?_;refine gv (kU I I oM oM) I (go6 ?_);refine gv ((zQ (q:=1) I I oM oM).cv (show _=vI (2) from I)) I (go2 ?_);refine wG (go2 ?_);refine gv (OpV.tr dC (yI (q:=3) I I)) I (zPO ?_);refine lX (xB yC (Pc.fst (Pc.tz pH)) D) λci be=>(cL (ev1 I) call146 (λw hs=>tA hs be) λcf h5 cn bb=>?_);obtain rfl:=bb;refine qA ?_;refine lX (xB yC (Pc.tz pH) H) λcc ay=>(cL (ev1 I) call146 (λw hs=>tA hs ay) λbz h6 cq av=>?_);obtain rfl:=av;refine uS ?_;refine gU 4 36 (vB ((¬(smB s.1.z))\/(¬(smB p.z)))) ?_ ?_
 ·
  refine zY (¬(smB s.1.z)) (λG=>?_) (λG=>?_)
  ·
   refine gT G I (go4 ?_);refine gqU ?_;exact congrArg some (vH G)
  refine gF G I (go6 ?_);refine gqU ?_;exact congrArg some (vJ G)
 refine gc2 (λC=>?_) λC=>?_
 ·
  refine go2 ?_;refine lX (xB bZ pH D) λbv aq=>(lX (xB zH pH H) λbs an=>(cL (ev2 I I) call147 (λw hs=>zA1 hs aq an oM oM oM) λU h7 cm aj=>?_));obtain rfl:U=vI (sdZ s p):=aj;have bj:=bG s p;refine uE ?_;refine zC I I ?_
  rfl
 obtain⟨bh,bn⟩:=zJB C;refine go6 ?_;refine gv (kU I I oM oM) I (go6 ?_);refine gv ((zQ (q:=1) I I oM oM).cv (show _=vI (3) from I)) I (go2 ?_);refine wG (go2 ?_);refine gv (OpV.fa dC (yI (q:=3) I I)) I (uS ?_);refine lX (xB yC (Pc.snd pH) D) λbr ai=>(cL (ev1 I) call146 (λw hs=>tA hs ai) λbq h7 cm ah=>?_);obtain rfl:=ah;refine tU ?_;refine cnd (λJ=>?_) λJ=>?_
 ·
  refine go2 ?_;refine lX (xB bZ pH D) λbp ae=>(lX (xB zH pH H) λbo ad=>(cL (ev2 I I) call147 (λw hs=>zA1 hs ae ad oM oM oM) λO h8 cl ac=>?_));obtain rfl:O=vI (sdZ s p):=ac;have bi:=bG s p;refine go5 ?_;refine zC I I ?_
  rfl
 have bm:=Classical.not_not.1 J;have cp:=sS bm;refine go7 ?_;refine cL (ev1 I) call148 (λw hs=>zH9 hs oM oM) λM h8 cl ab=>?_;obtain rfl:M=vI (zG3 (((((0:Int)+((smZ s.1.x)*(smZ p.x)))+((smZ s.1.y)*(smZ p.y)))+((smZ s.1.z)*(smZ p.z)))-(smZ s.2))):=ab;refine go4 ?_;refine zC I I ?_;exact congrArg vI (zUZ zol zol zol bm)
end
end Go.Proofs.YtpkaegemlpaenaaGreat
namespace Bk
open Classical
def ag(x p y q:Rat)(u:PI):P2:=(x+p*(u.1:Rat),y+q*(u.2:Rat))
theorem zIY{x p:Rat}{u v:Int}(hp:0<p):x+p*(u:Rat)<x+p*(v:Rat)↔u<v:=by
 constructor
 · intro h
   refine Int.not_le.1 λe=>?_;have h1:(v:Rat)<=(u:Rat):=Rat.intCast_le_intCast.2 e;have h2:=Rat.mul_le_mul_of_nonneg_left h1 (Rat.le_of_lt hp);grind
 · intro h
   have h1:(u:Rat)<(v:Rat):=Rat.intCast_lt_intCast.2 h;have h2:=Rat.mul_lt_mul_of_pos_left h1 hp;grind
theorem zPZ{x p:Rat}{u v:Int}(hp:0<p):x+p*(u:Rat)=x+p*(v:Rat)↔u=v:=by
 constructor
 · intro h
   rcases Int.lt_trichotomy u v with h1|h1|h1
   · have:=(zIY (x:=x) hp).2 h1;grind
   · exact h1
   · have:=(zIY (x:=x) hp).2 h1;grind
 · rintro rfl;rfl
variable {x p y q:Rat}
theorem yDR(u v w:PI):cr (ag x p y q u) (ag x p y q v) (ag x p y q w)=p*q*((crI u v w:Int):Rat):=by
 unfold cr ag crI;simp only[Rat.intCast_sub,Rat.intCast_mul];grind
theorem kG(hp:0<p)(hq:0<q):0<p*q:=by
 have:=Rat.mul_lt_mul_of_pos_left hq hp;grind
theorem zZF(hp:0<p)(hq:0<q)(u v w:PI):orZ (ag x p y q u) (ag x p y q v) (ag x p y q w)=orI u v w:=by
 unfold orZ orI;rw[yDR,eU (kG hp hq),nS]
 rfl
theorem yDP(hp:0<p)(hq:0<q)(u v:PI):lx (ag x p y q u) (ag x p y q v)↔lxI u v=true:=by
 unfold lx lxI;rw[decide_eq_true_iff];unfold ag;simp only[zIY hp,zIY hq,zPZ hp]
theorem yDQ(hp:0<p)(hq:0<q)(u v:PI):ag x p y q u=ag x p y q v↔u=v:=by
 obtain⟨D,C⟩:=u;obtain⟨v1,v2⟩:=v;unfold ag;rw[Prod.mk.injEq,Prod.mk.injEq,zPZ hp,zPZ hq]
theorem yDS{a b c d:Int}(hp:0<p):kC (x+p*(a:Rat)) (x+p*(b:Rat)) (x+p*(c:Rat)) (x+p*(d:Rat))↔apI a b c d=true:=by
 unfold kC apI;rw[decide_eq_true_iff];simp only[zIY hp]
theorem zZH{c:Prop} [Decidable c](u v:PI):(if c then ag x p y q u else ag x p y q v)=ag x p y q (if c then u else v):=by split<;>rfl
theorem yKK(hp:0<p)(hq:0<q)(a b c d:PI):oZ (ag x p y q a) (ag x p y q b) (ag x p y q c) (ag x p y q d)=alS a b c d:=by
 unfold oZ alS;simp only[yDP hp hq,zZH,yDQ hp hq]
theorem zNG(hp:0<p)(hq:0<q)(a b c d:PI):fT (ag x p y q a) (ag x p y q b) (ag x p y q c) (ag x p y q d)=toI a b c d:=by
 have D:kC (ag x p y q a).1 (ag x p y q b).1 (ag x p y q c).1 (ag x p y q d).1↔apI a.1 b.1 c.1 d.1=true:=yDS hp;have C:kC (ag x p y q a).2 (ag x p y q b).2 (ag x p y q c).2 (ag x p y q d).2↔apI a.2 b.2 c.2 d.2=true:=yDS hq;unfold fT toI lI alI lo2 hi2;simp only[zZF hp hq,D,C,yDP hp hq,zZH,yKK hp hq]
def gI(s:List PI)(m:Nat):PI:=s.getD m (0,0)
def zR6(s:List PI):Bool:=decide (3<=s.length)&&(List.range s.length).all λb=>(List.range b).all λa=>!decide (gI s a=gI s b)&&decide (toI (gI s a) (gI s ((a+1)%s.length)) (gI s b) (gI s ((b+1)%s.length))=waI s.length a b)
theorem zE3(hp:0<p)(hq:0<q){l:List Pt}{s:List PI}(hl:l.length=s.length)(h:∀m,m<s.length->pr (gp l m) 0 1=ag x p y q (gI s m))(hb:zR6 s=true):aE l 0 1:=by
 unfold zR6 at hb;rw[Bool.and_eq_true,decide_eq_true_iff,List.all_eq_true] at hb;obtain⟨h3,hb⟩:=hb;have g:∀a b,a<b->b<s.length->¬gI s a=gI s b/\toI (gI s a) (gI s ((a+1)%s.length)) (gI s b) (gI s ((b+1)%s.length))=waI s.length a b:=λa b C D=>by
  have h1:=List.all_eq_true.1 (hb b (List.mem_range.2 D)) a (List.mem_range.2 C);rw[Bool.and_eq_true,Bool.not_eq_true',decide_eq_false_iff_not,decide_eq_true_iff] at h1;exact h1
 refine⟨by omega,λa b H C G=>?_,λa b H C G=>?_⟩
 · show ¬pr (gp l a) 0 1=pr (gp l b) 0 1
   rw[h a zoa,h b zoa,yDQ hp hq];exact(g a b C zoa).1
 · show fT (vV l 0 1 a) (vT l 0 1 a) (vV l 0 1 b) (vT l 0 1 b)=zHM l.length a b
   unfold vV vT;rw[hl,h a zoa,h b zoa,h _ (Nat.mod_lt _ zoa),h _ (Nat.mod_lt _ zoa),zNG hp hq];exact(g a b C zoa).2
theorem zFW{P:List Pt}(hs:aE P 0 1)(hl:P.length<=64)(ha:0<yR (arZ P 0 1)):vZ [P] 0 1=0:=by
 have D:∀m,m<[P].length->gl [P] m=P:=λm C=>by
  rw[show m=0 by rw[List.length_singleton] at C;omega];rfl
 unfold vZ;rw[if_neg (λe=>by
  rcases e with e|⟨m,C,e⟩
  · rw[List.length_singleton] at e;omega
  · rw[D m C] at e;omega),if_neg (λe=>by
  obtain⟨m,C,e⟩:=e;rw[D m C] at e;exact e hs),if_neg (λe=>by
  obtain⟨a,b,H,G,_⟩:=e;rw[List.length_singleton] at G;omega),if_neg (λe=>by
  rcases e with⟨k,hk,e⟩|⟨a,b,ha',hb',e⟩
  · rw[eE,D k hk] at e;exact e.1 ha
  · rw[List.length_singleton] at ha' hb'
    exact e.1.1.1 zoa)]
theorem zQJ(u v w:P2):0<orZ u v w↔0<cr u v w:=iX
theorem zWC(u v w:P2):orZ u v w<0↔cr u v w<0:=jK
theorem zRE{a b p:P2}(h:a.2=b.2):¬jJ a b p:=λe=>e.1 (by rw[h])
theorem yCA{a b p:P2}(h:a.1=b.1)(hu:a.2<b.2):jJ a b p↔(a.2<=p.2/\p.2<b.2)/\p.1<a.1:=by
 have e:cr a b p=(b.2-a.2)*(a.1-p.1):=by unfold cr;rw[<-h];grind
 have C:0<b.2-a.2:=by grind
 have g:0<cr a b p↔p.1<a.1:=by
  rw[e];constructor
  · intro k
    refine Rat.not_le.1 λD=>?_;have:0<=(b.2-a.2)*(p.1-a.1):=Rat.mul_nonneg (Rat.le_of_lt C) zoi;grind
  · intro k
    exact kG C zoi
 have G:cr a b p<0↔a.1<p.1:=by
  rw[e];constructor
  · intro k
    refine Rat.not_le.1 λD=>?_;have:0<=(b.2-a.2)*(a.1-p.1):=Rat.mul_nonneg (Rat.le_of_lt C) zoi;grind
  · intro k
    have:=kG C (show 0<p.1-a.1 by grind);grind
 unfold jJ;rw[zQJ,zWC,g,G];constructor
 · rintro⟨h1,h2⟩
   rcases h2 with⟨h3,h4⟩|⟨h3,h4⟩
   · exact⟨⟨h3,Rat.not_le.1 λk=>h1 ⟨λ_=>k,λ_=>h3⟩⟩,h4⟩
   · exact absurd ⟨λ_=>h3,λ_=>by grind⟩ h1
 · rintro⟨⟨h1,h2⟩,h3⟩
   exact⟨λk=>absurd (k.1 h1) (Rat.not_le.2 h2),.inl ⟨h1,h3⟩⟩
theorem yCB{a b p:P2}(h:a.1=b.1)(hu:b.2<a.2):jJ a b p↔(b.2<=p.2/\p.2<a.2)/\p.1<a.1:=by
 have e:cr a b p= -((a.2-b.2)*(a.1-p.1)):=by unfold cr;rw[<-h];grind
 have C:0<a.2-b.2:=by grind
 have g:cr a b p<0↔p.1<a.1:=by
  rw[e];constructor
  · intro k
    refine Rat.not_le.1 λD=>?_;have:0<=(a.2-b.2)*(p.1-a.1):=Rat.mul_nonneg (Rat.le_of_lt C) zoi;grind
  · intro k
    have:=kG C (show 0<a.1-p.1 by grind);grind
 have G:0<cr a b p↔a.1<p.1:=by
  rw[e];constructor
  · intro k
    refine Rat.not_le.1 λD=>?_;have:0<=(a.2-b.2)*(a.1-p.1):=Rat.mul_nonneg (Rat.le_of_lt C) zoi;grind
  · intro k
    have:=kG C (show 0<p.1-a.1 by grind);grind
 unfold jJ;rw[zQJ,zWC,g,G];constructor
 · rintro⟨h1,h2⟩
   rcases h2 with⟨h3,h4⟩|⟨h3,h4⟩
   · exact absurd ⟨λ_=>by grind,λ_=>h3⟩ h1
   · exact⟨⟨h3,Rat.not_le.1 λk=>h1 ⟨λ_=>h3,λ_=>k⟩⟩,h4⟩
 · rintro⟨⟨h1,h2⟩,h3⟩
   exact⟨λk=>absurd (k.2 h1) (Rat.not_le.2 h2),.inr ⟨h1,h3⟩⟩
def rcP(x y X Y:Rat):List P2:=[(x,y),(X,y),(X,Y),(x,Y)]
def yFU(l:List Pt)(i j:Nat)(x y X Y:Rat):Prop:=l.length=4/\∃r,r<4/\∀m,m<4->pr (gp l m) i j=(rcP x y X Y).getD ((m+r)%4) (0,0)
variable {x y X Y:Rat}
theorem yJK{a b p:P2}(h:a.2=b.2):onS a b p↔p.2=a.2/\qY a.1 b.1 p.1:=by
 unfold onS;constructor
 · rintro⟨h1,h2,h3⟩
   unfold qY at h2;exact⟨by grind,h1⟩
 · rintro⟨h1,h2⟩
   refine⟨h2,?_,?_⟩
   · unfold qY;grind
   · unfold cr;grind
theorem yJJ{a b p:P2}(h:a.1=b.1):onS a b p↔p.1=a.1/\qY a.2 b.2 p.2:=by
 unfold onS;constructor
 · rintro⟨h1,h2,h3⟩
   unfold qY at h1;exact⟨by grind,h2⟩
 · rintro⟨h1,h2⟩
   refine⟨?_,h2,?_⟩
   · unfold qY;grind
   · unfold cr;grind
def bdP(x y X Y:Rat)(p:P2):Prop:=(x<=p.1/\p.1<=X/\y<=p.2/\p.2<=Y)/\¬(x<p.1/\p.1<X/\y<p.2/\p.2<Y)
def zPN(x y X Y:Rat)(p:P2):Prop:=x<p.1/\p.1<X/\y<p.2/\p.2<Y
theorem zXN{l:List Pt}{i j:Nat}{p:P2}(hx:x<X)(hy:y<Y)(h:yFU l i j x y X Y):gW l p i j=if bdP x y X Y p then 0 else if zPN x y X Y p then 1 else -1:=by
 obtain⟨Z,r,hr,hm⟩:=h;have M:∀m,m<4->vV l i j m=(rcP x y X Y).getD ((m+r)%4) (0,0):=hm;have J:∀m,m<4->vT l i j m=(rcP x y X Y).getD ((m+1+r)%4) (0,0):=λm h4=>by
  unfold vT;rw[Z,hm _ (Nat.mod_lt _ zod)]
  congr 1
  omega
 have O:(∃m,m<l.length/\onS (vV l i j m) (vT l i j m) p)↔bdP x y X Y p:=by
  have U:(∃m,m<l.length/\onS (vV l i j m) (vT l i j m) p)↔(onS (x,y) (X,y) p\/onS (X,y) (X,Y) p\/onS (X,Y) (x,Y) p\/onS (x,Y) (x,y) p):=by
   rw[Z];constructor
   · rintro⟨m,h4,C⟩
     rw[M m h4,J m h4] at C;have e:(m+1+r)%4=((m+r)%4+1)%4:=by omega
     rw[e] at C;generalize hq:(m+r)%4=q at C;have:q=0\/q=1\/q=2\/q=3:=by omega
     rcases this with rfl|rfl|rfl|rfl
     · exact .inl C
     · exact .inr (.inl C)
     · exact .inr (.inr (.inl C))
     · exact .inr (.inr (.inr C))
   · have g:∀q,q<4->onS ((rcP x y X Y).getD q (0,0)) ((rcP x y X Y).getD ((q+1)%4) (0,0)) p->∃m,m<4/\onS (vV l i j m) (vT l i j m) p:=λq hq C=>by
      refine⟨(q+4-r)%4,Nat.mod_lt _ zod,?_⟩;rw[M _ (Nat.mod_lt _ zod),J _ (Nat.mod_lt _ zod),show((q+4-r)%4+r)%4=q by omega,show((q+4-r)%4+1+r)%4=(q+1)%4 by omega];exact C
     rintro(C|C|C|C)
     · exact g 0 zod C
     · exact g 1 zod C
     · exact g 2 zod C
     · exact g 3 zod C
  have o1:onS (x,y) (X,y) p↔p.2=y/\qY x X p.1:=yJK I;have o2:onS (X,y) (X,Y) p↔p.1=X/\qY y Y p.2:=yJJ I;have o3:onS (X,Y) (x,Y) p↔p.2=Y/\qY X x p.1:=yJK I;have o4:onS (x,Y) (x,y) p↔p.1=x/\qY Y y p.2:=yJJ I;rw[U,o1,o2,o3,o4];unfold qY bdP;constructor
  · rintro(⟨h1,h2⟩|⟨h1,h2⟩|⟨h1,h2⟩|⟨h1,h2⟩)<;>refine⟨⟨?_,?_,?_,?_⟩,?_⟩<;>grind
  · rintro⟨⟨a1,a2,a3,a4⟩,hn⟩
    by_cases e1:p.2=y
    · exact .inl ⟨e1,.inl ⟨a1,a2⟩⟩
    · by_cases e2:p.1=X
      · exact .inr (.inl ⟨e2,.inl ⟨a3,a4⟩⟩)
      · by_cases e3:p.2=Y
        · exact .inr (.inr (.inl ⟨e3,by grind⟩))
        · by_cases e4:p.1=x
          · exact .inr (.inr (.inr ⟨e4,by grind⟩))
          · exact absurd ⟨by grind,by grind,by grind,by grind⟩ hn
 have G:¬bdP x y X Y p->(jV l p i j l.length↔zPN x y X Y p):=by
  intro H;rw[Z];have c0:¬jJ ((rcP x y X Y).getD 0 (0,0)) ((rcP x y X Y).getD 1 (0,0)) p:=zRE I;have c1:jJ ((rcP x y X Y).getD 1 (0,0)) ((rcP x y X Y).getD 2 (0,0)) p↔(y<=p.2/\p.2<Y)/\p.1<X:=yCA (a:=(X,y)) (b:=(X,Y)) I hy;have c2:¬jJ ((rcP x y X Y).getD 2 (0,0)) ((rcP x y X Y).getD 3 (0,0)) p:=zRE I;have c3:jJ ((rcP x y X Y).getD 3 (0,0)) ((rcP x y X Y).getD 0 (0,0)) p↔(y<=p.2/\p.2<Y)/\p.1<x:=yCB (a:=(x,Y)) (b:=(x,y)) I hy;have aa:zPN x y X Y p↔((y<=p.2/\p.2<Y)/\p.1<X)/\¬((y<=p.2/\p.2<Y)/\p.1<x):=by
   unfold bdP at H;unfold zPN;grind
  rw[aa,<-c1,<-c3];have D:∀n,jV l p i j (n+1)↔(jJ (vV l i j n) (vT l i j n) p/\¬jV l p i j n)\/(¬jJ (vV l i j n) (vT l i j n) p/\jV l p i j n):=λn=>Iff.rfl;have z:¬jV l p i j 0:=id;rw[D 3,D 2,D 1,D 0,M 0 zod,M 1 zod,M 2 zod,M 3 zod,J 0 zod,J 1 zod,J 2 zod,J 3 zod];have:r=0\/r=1\/r=2\/r=3:=by omega
  have ab:jJ ((rcP x y X Y).getD 3 (0,0)) ((rcP x y X Y).getD 0 (0,0)) p->jJ ((rcP x y X Y).getD 1 (0,0)) ((rcP x y X Y).getD 2 (0,0)) p:=λe=>c1.2 ⟨(c3.1 e).1,by have:=(c3.1 e).2;grind⟩
  rcases this with rfl|rfl|rfl|rfl<;>simp only[Nat.reduceAdd,Nat.reduceMod,c0,c2,z]<;>grind
 unfold gW
 by_cases H:bdP x y X Y p
 · rw[if_pos (O.2 H),if_pos H]
 · rw[if_neg λe=>H (O.1 e),if_neg H]
   by_cases hi:zPN x y X Y p
   · rw[if_pos ((G H).2 hi),if_pos hi]
   · rw[if_neg λe=>hi ((G H).1 e),if_neg hi]
def exI(h l2 h2 l3 h3:Rat):Prop:=0<h/\(l2<h/\h<h2)/\l3<h/\h<h3
def iB(h l2 h2 l3 h3:Rat):Prop:=0<h->(l2<=h/\h<=h2)->(l3<=h/\h<=h3)->(l2<h/\h<h2)/\l3<h/\h<h3
noncomputable def cR(p:Prop):Int:=if p then 1 else 0
theorem aX{p:Prop}(h:p):cR p=1:=if_pos h
theorem kB{p:Prop}(h:¬p):cR p=0:=if_neg h
variable {l1 h1 l2 h2 l3 h3:Rat}
theorem yHG(a1:l1<h1)(a2:l2<h2)(a3:l3<h3)(k1:iB h1 l2 h2 l3 h3)(k2:iB h2 l1 h1 l3 h3)(k3:iB h3 l1 h1 l2 h2):
 cR (exI h1 l2 h2 l3 h3)+cR (exI h2 l1 h1 l3 h3)+cR (exI h3 l1 h1 l2 h2)=cR ((0<h1/\0<h2/\0<h3)/\(l1<h2/\l1<h3)/\(l2<h1/\l2<h3)/\l3<h1/\l3<h2):=by
 by_cases hc:(0<h1/\0<h2/\0<h3)/\(l1<h2/\l1<h3)/\(l2<h1/\l2<h3)/\l3<h1/\l3<h2
 · rw[aX hc]
   obtain⟨⟨M,J,H⟩,⟨q1,q2⟩,⟨q3,q4⟩,Z,U⟩:=hc
   by_cases e1:h1<=h2/\h1<=h3
   · have s:=k1 M ⟨by grind,e1.1⟩ ⟨by grind,e1.2⟩
     have G:exI h1 l2 h2 l3 h3:=⟨M,s⟩;have D:¬exI h2 l1 h1 l3 h3:=λe=>by unfold exI at e;grind
     have C:¬exI h3 l1 h1 l2 h2:=λe=>by unfold exI at e;grind
     rw[aX G,kB D,kB C];rfl
   · by_cases e2:h2<=h1/\h2<=h3
     · have s:=k2 J ⟨by grind,e2.1⟩ ⟨by grind,e2.2⟩
       have G:¬exI h1 l2 h2 l3 h3:=λe=>by unfold exI at e;grind
       have D:exI h2 l1 h1 l3 h3:=⟨J,s⟩;have C:¬exI h3 l1 h1 l2 h2:=λe=>by unfold exI at e;grind
       rw[kB G,aX D,kB C];rfl
     · have O:h3<=h1/\h3<=h2:=by grind
       have s:=k3 H ⟨by grind,O.1⟩ ⟨by grind,O.2⟩;have G:¬exI h1 l2 h2 l3 h3:=λe=>by unfold exI at e;grind
       have D:¬exI h2 l1 h1 l3 h3:=λe=>by unfold exI at e;grind
       have C:exI h3 l1 h1 l2 h2:=⟨H,s⟩;rw[kB G,kB D,aX C];rfl
 · have G:¬exI h1 l2 h2 l3 h3:=λe=>hc (by unfold exI at e;grind)
   have D:¬exI h2 l1 h1 l3 h3:=λe=>hc (by unfold exI at e;grind);have C:¬exI h3 l1 h1 l2 h2:=λe=>hc (by unfold exI at e;grind);rw[kB G,kB D,kB C,kB hc];rfl
def enI(l l2 h2 l3 h3:Rat):Prop:=0<l/\(l2<l/\l<h2)/\l3<l/\l<h3
theorem yHK(a1:l1<h1)(a2:l2<h2)(a3:l3<h3)(k1:iB l1 l2 h2 l3 h3)(k2:iB l2 l1 h1 l3 h3)(k3:iB l3 l1 h1 l2 h2):
 cR (enI l1 l2 h2 l3 h3)+cR (enI l2 l1 h1 l3 h3)+cR (enI l3 l1 h1 l2 h2)=cR ((0<l1\/0<l2\/0<l3)/\(l1<h2/\l1<h3)/\(l2<h1/\l2<h3)/\l3<h1/\l3<h2):=by
 by_cases hc:(0<l1\/0<l2\/0<l3)/\(l1<h2/\l1<h3)/\(l2<h1/\l2<h3)/\l3<h1/\l3<h2
 · rw[aX hc]
   obtain⟨p1,⟨q1,Z⟩,⟨U,O⟩,M,J⟩:=hc
   by_cases e1:l2<=l1/\l3<=l1
   · have p:0<l1:=by grind
     have s:=k1 p ⟨e1.1,by grind⟩ ⟨e1.2,by grind⟩;have G:enI l1 l2 h2 l3 h3:=⟨p,s⟩;have D:¬enI l2 l1 h1 l3 h3:=λe=>by unfold enI at e;grind
     have C:¬enI l3 l1 h1 l2 h2:=λe=>by unfold enI at e;grind
     rw[aX G,kB D,kB C];rfl
   · by_cases e2:l1<=l2/\l3<=l2
     · have p:0<l2:=by grind
       have s:=k2 p ⟨e2.1,by grind⟩ ⟨e2.2,by grind⟩;have G:¬enI l1 l2 h2 l3 h3:=λe=>by unfold enI at e;grind
       have D:enI l2 l1 h1 l3 h3:=⟨p,s⟩;have C:¬enI l3 l1 h1 l2 h2:=λe=>by unfold enI at e;grind
       rw[kB G,aX D,kB C];rfl
     · have H:l1<=l3/\l2<=l3:=by grind
       have p:0<l3:=by grind
       have s:=k3 p ⟨H.1,by grind⟩ ⟨H.2,by grind⟩;have G:¬enI l1 l2 h2 l3 h3:=λe=>by unfold enI at e;grind
       have D:¬enI l2 l1 h1 l3 h3:=λe=>by unfold enI at e;grind
       have C:enI l3 l1 h1 l2 h2:=⟨p,s⟩;rw[kB G,kB D,aX C];rfl
 · have G:¬enI l1 l2 h2 l3 h3:=λe=>hc (by unfold enI at e;grind)
   have D:¬enI l2 l1 h1 l3 h3:=λe=>hc (by unfold enI at e;grind);have C:¬enI l3 l1 h1 l2 h2:=λe=>hc (by unfold enI at e;grind);rw[kB G,kB D,kB C,kB hc];rfl
theorem yGT(a1:l1<h1)(a2:l2<h2)(a3:l3<h3)(k1:iB h1 l2 h2 l3 h3)(k2:iB h2 l1 h1 l3 h3)(k3:iB h3 l1 h1 l2 h2)(m1:iB l1 l2 h2 l3 h3)(m2:iB l2 l1 h1 l3 h3)(m3:iB l3 l1 h1 l2 h2)
    (h0:l1<=0/\0<=h1->l2<=0/\0<=h2->l3<=0/\0<=h3->(l1<0/\0<h1)/\(l2<0/\0<h2)/\l3<0/\0<h3):
    cR (exI h1 l2 h2 l3 h3)+cR (exI h2 l1 h1 l3 h3)+cR (exI h3 l1 h1 l2 h2)-(cR (enI l1 l2 h2 l3 h3)+cR (enI l2 l1 h1 l3 h3)+cR (enI l3 l1 h1 l2 h2))=cR ((l1<0/\0<h1)/\(l2<0/\0<h2)/\l3<0/\0<h3):=by
 rw[yHG a1 a2 a3 k1 k2 k3,yHK a1 a2 a3 m1 m2 m3]
 by_cases hm:(l1<h2/\l1<h3)/\(l2<h1/\l2<h3)/\l3<h1/\l3<h2
 · by_cases hp:0<h1/\0<h2/\0<h3
   · by_cases C:0<l1\/0<l2\/0<l3
     · have hi:¬((l1<0/\0<h1)/\(l2<0/\0<h2)/\l3<0/\0<h3):=λe=>by grind
       rw[aX ⟨hp,hm⟩,aX ⟨C,hm⟩,kB hi];rfl
     · have hi:=h0 ⟨by grind,by grind⟩ ⟨by grind,by grind⟩ ⟨by grind,by grind⟩
       rw[aX ⟨hp,hm⟩,kB λe=>C e.1,aX hi];rfl
   · have C:¬(0<l1\/0<l2\/0<l3):=λe=>by grind
     have hi:¬((l1<0/\0<h1)/\(l2<0/\0<h2)/\l3<0/\0<h3):=λe=>by grind
     rw[kB λe=>hp e.1,kB λe=>C e.1,kB hi];rfl
 · have hi:¬((l1<0/\0<h1)/\(l2<0/\0<h2)/\l3<0/\0<h3):=λe=>hm zoi
   rw[kB λe=>hm e.2,kB λe=>hm e.2,kB hi];rfl
def zI6(p q:Pt):Prop:=p.x=q.x/\p.y=q.y
noncomputable def dU(B:List Pt)(p:Pt):Nat->Int
  |0=>-1
  |j+1=>if zI6 (B.getD j zT) p then(j:Int) else dU B p j
theorem zGJ(B:List Pt)(p:Pt):∀j,-1<=dU B p j/\dU B p j<j\/(j=0/\dU B p j= -1)
  |0=>.inr ⟨rfl,rfl⟩
  |j+1=>by
   have h:=zGJ B p j;unfold dU
   split
   · exact .inl zoa
   · exact .inl zoa
theorem fd_t{B:List Pt}{p:Pt}{j:Nat}(h:zI6 (B.getD j zT) p):(j:Int)=dU B p (j+1):=(if_pos h).symm
theorem yHF{B:List Pt}{p:Pt}{j:Nat}(h:¬zI6 (B.getD j zT) p):dU B p j=dU B p (j+1):=(if_neg h).symm
noncomputable def fdZ(B:List Pt)(p:Pt):Int:=dU B p B.length
noncomputable def adB(B:List Pt)(p:Pt):List Pt:=if fdZ B p<0 then B++[p] else B
noncomputable def adN(B:List Pt)(p:Pt):Int:=if fdZ B p<0 then(B.length:Int) else fdZ B p
noncomputable def plB(B:List Pt)(x:List Pt):Nat->List Pt
  |0=>B
  |k+1=>adB (plB B x k) (x.getD k zT)
noncomputable def plN(B:List Pt)(x:List Pt):Nat->List Int:=qG λk=>adN (plB B x k) (x.getD k zT)
noncomputable def ptB(L:List (List Pt)):Nat->List Pt
  |0=>[]
  |i+1=>plB (ptB L i) (L.getD i []) (L.getD i []).length
noncomputable def ptN(L:List (List Pt)):Nat->List (List Int):=qG λi=>plN (ptB L i) (L.getD i []) (L.getD i []).length
def eO(L:List (List Pt)):Nat->Nat
  |0=>0
  |i+1=>eO L i+(L.getD i []).length
theorem yCK(B:List Pt)(p:Pt):(adB B p).length<=B.length+1:=by
 unfold adB;split
 · rw[lAz,List.length_singleton];exact Nat.le_refl _
 · omega
theorem zJH(B x:List Pt):∀k,(plB B x k).length<=B.length+k
  |0=>Nat.le_refl _
  |k+1=>by
   have h1:=zJH B x k;have h2:=yCK (plB B x k) (x.getD k zT)
   show(adB _ _).length<=_
   omega
theorem zJF(L:List (List Pt)):∀i,(ptB L i).length<=eO L i
  |0=>Nat.le_refl _
  |i+1=>by
   have h1:=zJF L i;have h2:=zJH (ptB L i) (L.getD i []) (L.getD i []).length
   show(plB _ _ _).length<=eO L i+_
   omega
theorem zYD{L:List (List Pt)}(h:∀m,m<L.length->(L.getD m []).length<=64):∀i,i<=L.length->eO L i<=64*i
  |0,_=>Nat.le_refl _
  |i+1,hi=>by
   have h1:=zYD h i zoa;have h2:=h i zoa
   show eO L i+_<=_
   omega
theorem yBD{L:List (List Pt)}(h:vZ L 0 1=0):L.length<=16/\∀m,m<L.length->(L.getD m []).length<=64:=by
 unfold vZ at h
 split at h
 · omega
 · rename_i h1
   exact⟨Nat.not_lt.1 λe=>h1 (.inl e),λm C=>Nat.not_lt.1 λe=>h1 (.inr ⟨m,C,e⟩)⟩
section
variable (L:List (List Pt))(lo hi:Rat)
noncomputable def bsZ:List Pt:=ptB L L.length
noncomputable def bxZ:List (List Int):=ptN L L.length
noncomputable def zSK:Nat->List Pt:=qG λi=>T3.mk ((bsZ L).getD (i%(bsZ L).length) zT).x ((bsZ L).getD (i%(bsZ L).length) zT).y (if((bsZ L).length:Int)<=(i:Int) then hi else lo)
noncomputable def ppZ:List Pt:=zSK L lo hi (2*(bsZ L).length)
noncomputable def zYZ:Nat->List (List Int):=qG λi=>zK9 ((bxZ L).getD i []) ((bxZ L).getD i []).length
noncomputable def tpL(i:Nat):Nat->List Int:=qG λk=>((bxZ L).getD i []).getD k 0+((bsZ L).length:Int)
noncomputable def zUI:Nat->List (List Int):=qG λi=>tpL L i ((bxZ L).getD i []).length
noncomputable def nmS(i k:Nat):List Nat:=[115]++qN (((i:Int):Int):Rat)++[46]++qN (((k:Int):Int):Rat)
noncomputable def sdA(i k:Nat):Int:=((bxZ L).getD i []).getD k 0
noncomputable def sdB(i k:Nat):Int:=((bxZ L).getD i []).getD ((k+1)%((bxZ L).getD i []).length) 0
noncomputable def sdN(i k:Nat):Pt:=T3.mk (((ppZ L lo hi).getD (sdB L i k).toNat zT).y-((ppZ L lo hi).getD (sdA L i k).toNat zT).y) (-(((ppZ L lo hi).getD (sdB L i k).toNat zT).x-((ppZ L lo hi).getD (sdA L i k).toNat zT).x)) (0:Rat)
noncomputable def sdF(i k:Nat):Fc:=((sdN L lo hi i k,xE (sdN L lo hi i k) ((ppZ L lo hi).getD (sdA L i k).toNat zT)),[[sdA L i k,sdB L i k,sdB L i k+((bsZ L).length:Int),sdA L i k+((bsZ L).length:Int)]],nmS i k)
noncomputable def sfX(i:Nat):Nat->List Fc:=qG λk=>sdF L lo hi i k
noncomputable def zK6:Nat->List Fc:=tO λi=>sfX L lo hi i ((bxZ L).getD i []).length
noncomputable def btF:Fc:=((T3.mk (0:Rat) (0:Rat) (-((1:Int):Rat)),-lo),zYZ L (bxZ L).length,[98,111,116,116,111,109])
noncomputable def tpF:Fc:=((T3.mk (0:Rat) (0:Rat) ((1:Int):Rat),hi),zUI L (bxZ L).length,[116,111,112])
noncomputable def prR:Sd:=(ppZ L lo hi,zK6 L lo hi (bxZ L).length++[btF L lo,tpF L hi],[])
def prB:Prop:=512<2*(bsZ L).length\/256<eO L L.length+2
noncomputable def prE:Int:=if ¬vZ L 0 1=0 then vZ L 0 1 else if ¬ouZ L=1 then 33 else if 0<=xT lo hi then 9 else if prB L then 2 else 0
noncomputable def prP:List Pt:=if prE L lo hi=0 then nrP (prR L lo hi) else[]
noncomputable def prF:List Fc:=if prE L lo hi=0 then nrF (prR L lo hi) else[]
end
section
variable {L:List (List Pt)}{lo hi:Rat}
theorem yJI(h1:vZ L 0 1=0)(h2:ouZ L=1)(h3:¬0<=xT lo hi)(h4:¬prB L):prE L lo hi=0/\prP L lo hi=nrP (prR L lo hi)/\prF L lo hi=nrF (prR L lo hi):=by
 have e:prE L lo hi=0:=by unfold prE;rw[if_neg (λe=>e h1),if_neg (λe=>e h2),if_neg h3,if_neg h4]
 exact⟨e,if_pos e,if_pos e⟩
theorem zQF{n:Int}(h:prE L lo hi=n)(hn:¬n=0):prE L lo hi=n/\prP L lo hi=[]/\prF L lo hi=[]:=⟨h,if_neg (by rw[h];exact hn),if_neg (by rw[h];exact hn)⟩
theorem pr_1(h1:¬vZ L 0 1=0):prE L lo hi=vZ L 0 1/\prP L lo hi=[]/\prF L lo hi=[]:=zQF (if_pos h1) h1
theorem yJH(h1:vZ L 0 1=0)(h2:¬ouZ L=1):prE L lo hi=33/\prP L lo hi=[]/\prF L lo hi=[]:=zQF (by unfold prE;rw[if_neg (λe=>e h1),if_pos h2]) zod
theorem pr_9(h1:vZ L 0 1=0)(h2:ouZ L=1)(h3:0<=xT lo hi):prE L lo hi=9/\prP L lo hi=[]/\prF L lo hi=[]:=zQF (by unfold prE;rw[if_neg (λe=>e h1),if_neg (λe=>e h2),if_pos h3]) zod
theorem pr_2(h1:vZ L 0 1=0)(h2:ouZ L=1)(h3:¬0<=xT lo hi)(h4:prB L):prE L lo hi=2/\prP L lo hi=[]/\prF L lo hi=[]:=zQF (by unfold prE;rw[if_neg (λe=>e h1),if_neg (λe=>e h2),if_neg h3,if_pos h4]) zod
theorem zT4(B:List Pt)(p:Pt):0<=adN B p/\adN B p<(adB B p).length:=by
 have h:=zGJ B p B.length;unfold adN adB fdZ
 split
 · rw[lAz,List.length_singleton];omega
 · omega
theorem yIG(B:List Pt)(p:Pt):B.length<=(adB B p).length:=by
 unfold adB;split
 · rw[lAz];omega
 · omega
theorem zV0(B x:List Pt){k n:Nat}(h:k<=n):(plB B x k).length<=(plB B x n).length:=by
 induction n with
 |zero=>rw[show k=0 by omega];exact Nat.le_refl _
 |succ n ih=>
  rcases Nat.lt_or_ge k (n+1) with h1|h1
  · exact Nat.le_trans (ih zoa) (yIG _ _)
  · rw[show k=n+1 by omega];exact Nat.le_refl _
theorem yFY{i n:Nat}(h:i<=n):(ptB L i).length<=(ptB L n).length:=by
 induction n with
 |zero=>rw[show i=0 by omega];exact Nat.le_refl _
 |succ n ih=>
  rcases Nat.lt_or_ge i (n+1) with h1|h1
  · exact Nat.le_trans (ih zoa) (zV0 (ptB L n) (L.getD n []) (k:=0) (Nat.zero_le _))
  · rw[show i=n+1 by omega];exact Nat.le_refl _
theorem yH6:(bxZ L).length=L.length:=yZ _ _
theorem zYS{i:Nat}(h:i<L.length):(bxZ L).getD i []=plN (ptB L i) (L.getD i []) (L.getD i []).length:=qF _ _ h
theorem zKM{i:Nat}(h:i<L.length):((bxZ L).getD i []).length=(L.getD i []).length:=by rw[zYS h];exact yZ _ _
theorem zND{i k:Nat}(h:i<L.length)(hk:k<((bxZ L).getD i []).length):0<=((bxZ L).getD i []).getD k 0/\((bxZ L).getD i []).getD k 0<↑(bsZ L).length:=by
 rw[zKM h] at hk;rw[zYS h];unfold plN;rw[qF _ _ hk];obtain⟨h1,h2⟩:=zT4 (plB (ptB L i) (L.getD i []) k) ((L.getD i []).getD k zT);have h3:=zV0 (ptB L i) (L.getD i []) (show k+1<=(L.getD i []).length from hk);have H:=yFY (L:=L) (show i+1<=L.length from h);have G:(plB (ptB L i) (L.getD i []) (k+1)).length=(adB (plB (ptB L i) (L.getD i []) k) ((L.getD i []).getD k zT)).length:=I;have D:(ptB L (i+1)).length=(plB (ptB L i) (L.getD i []) (L.getD i []).length).length:=I;have C:(bsZ L).length=(ptB L L.length).length:=I;exact⟨h1,by omega⟩
theorem zN8:(ppZ L lo hi).length=2*(bsZ L).length:=yZ _ _
theorem zU4{n:Nat}(hn:n<=L.length):(zK6 L lo hi n).length=eO L n:=by
 induction n with
 |zero=>rfl
 |succ n ih=>
  show List.length (zK6 L lo hi n++sfX L lo hi n ((bxZ L).getD n []).length)=eO L n+_
  rw[lAz,ih zoa,show(sfX L lo hi n ((bxZ L).getD n []).length).length=_ from yZ _ _,zKM zoa]
end
def eR{α:Type}(f:α->α)(d:α)(A:List α):Nat->List α
  |0=>A
  |k+1=>(eR f d A k).set k (f ((eR f d A k).getD k d))
theorem iT{α:Type}(f:α->α)(d:α)(A:List α):∀k,(eR f d A k).length=A.length
  |0=>rfl
  |k+1=>by
   show List.length (List.set _ _ _)=_
   rw[lS];exact iT f d A k
theorem zEH{α:Type}(f:α->α)(d:α)(A:List α):∀k i,i<A.length->(eR f d A k).getD i d=if i<k then f (A.getD i d) else A.getD i d
  |0,i,_=>rfl
  |k+1,i,h=>by
   show(List.set _ k _).getD i d=_
   rw[List.getD_eq_getElem?_getD,List.getElem?_set]
   split
   · rename_i e
     subst e;rw[if_pos (by rw[iT];exact h),if_pos zoa,zEH f d A k k h,if_neg zoa];rfl
   · rename_i e
     rw[<-List.getD_eq_getElem?_getD,zEH f d A k i h]
     by_cases h1:i<k
     · rw[if_pos h1,if_pos zoa]
     · rw[if_neg h1,if_neg zoa]
theorem zZT{α:Type}(f:α->α)(d:α)(A:List α):eR f d A A.length=A.map f:=by
 refine List.ext_getElem (by rw[iT,List.length_map]) λi h1 h2=>?_;rw[iT] at h1;have:=zEH f d A A.length i h1;rw[if_pos h1,List.getD_eq_getElem?_getD,List.getElem?_eq_getElem (by rw[iT];exact h1)] at this;rw[List.getD_eq_getElem?_getD,List.getElem?_eq_getElem h1] at this;rw[List.getElem_map];exact this
noncomputable def rnN(n:List Nat):List Nat:=if n=[98,111,116,116,111,109] then[122,48] else if n=[116,111,112] then[122,49] else if n=[115,48,46,48] then[121,48] else if n=[115,48,46,49] then[120,49] else if n=[115,48,46,50] then[121,49] else if n=[115,48,46,51] then[120,48] else n
noncomputable def rnF(f:Fc):Fc:=(f.1,(f.2.1,rnN f.2.2))
theorem zNO{F F0:List Fc}{i:Nat}{nm:List Nat}(hF:F=eR rnF zA F0 i)(h:rnN (F.getD i zA).2.2=nm):F.set i ((F.getD i zA).1,((F.getD i zA).2.1,nm))=eR rnF zA F0 (i+1):=by
 subst hF;subst h;rfl
theorem yIL{F F0:List Fc}{i:Nat}(hF:F=eR rnF zA F0 i)(h:rnN (F.getD i zA).2.2=(F.getD i zA).2.2)(hi:i<F.length):F=eR rnF zA F0 (i+1):=by
 rw[<-zNO hF h]
 show F=F.set i (F.getD i zA)
 rw[List.getD_eq_getElem?_getD,List.getElem?_eq_getElem hi];exact(List.set_getElem_self hi).symm
section
variable (a b:Pt)
def eP:Prop:=∀u,u<3->¬0<=xT (a.at u) (b.at u)
def blL:List (List Pt):=[[T3.mk a.x a.y (0:Rat),T3.mk b.x a.y (0:Rat),T3.mk b.x b.y (0:Rat),T3.mk a.x b.y (0:Rat)]]
noncomputable def blG:List Fc:=eR rnF zA (prF (blL a b) a.z b.z) (prF (blL a b) a.z b.z).length
noncomputable def blS:Sd:=(prP (blL a b) a.z b.z,blG a b,[])
noncomputable def blP:List Pt:=if eP a b then nrP (blS a b) else[]
noncomputable def blF:List Fc:=if eP a b then nrF (blS a b) else[]
noncomputable def blE:Int:=if eP a b then prE (blL a b) a.z b.z else 9
def blH:Prop:=(∀x,x∈blL a b->cJ x)/\(prE (blL a b) a.z b.z=0->okS (prR (blL a b) a.z b.z))/\okS (blS a b)
end
theorem yAX{L:List (List Pt)}{lo hi:Rat}(h:prE L lo hi=0->okS (prR L lo hi)):(prF L lo hi).length<=1000:=by
 unfold prF
 split
 · rename_i h0
   unfold nrF
   split
   · rw[zO2];exact(h h0).1.1.2
   · exact Nat.zero_le _
 · exact Nat.zero_le _
theorem bl_9{a b:Pt}(h:¬eP a b):blE a b=9/\blP a b=[]/\blF a b=[]:=⟨if_neg h,if_neg h,if_neg h⟩
theorem yCH{a b:Pt}(h:eP a b):blE a b=prE (blL a b) a.z b.z/\blP a b=nrP (blS a b)/\blF a b=nrF (blS a b):=⟨if_pos h,if_pos h,if_pos h⟩
theorem zQ9{B:List Pt}{p:Pt}:∀j,(∀i,i<j->¬zI6 (B.getD i zT) p)->dU B p j= -1
  |0,_=>rfl
  |j+1,h=>by
   rw[<-yHF (h j zoa)];exact zQ9 j λi hi=>h i zoa
theorem yIF{B:List Pt}{p:Pt}(h:∀i,i<B.length->¬zI6 (B.getD i zT) p):adB B p=B++[p]/\adN B p=(B.length:Int):=by
 have h1:fdZ B p<0:=by unfold fdZ;rw[zQ9 _ h];decide
 exact⟨if_pos h1,if_pos h1⟩
def rgI:Nat->List Int:=qG λi=>(i:Int)
theorem zR2{l:List Pt}{i k:Nat}(h:i<k):(l.take k).getD i zT=l.getD i zT:=by
 rw[List.getD_eq_getElem?_getD,List.getD_eq_getElem?_getD,List.getElem?_take,if_pos h]
def zM1(l:List Pt):Prop:=∀i j,i<j->j<l.length->¬zI6 (l.getD i zT) (l.getD j zT)
theorem zOB{l:List Pt}(hd:zM1 l):∀k,k<=l.length->plB [] l k=l.take k/\plN [] l k=rgI k
  |0,_=>⟨rfl,rfl⟩
  |k+1,hk=>by
   obtain⟨h1,h2⟩:=zOB hd k zoa;have hl:(l.take k).length=k:=by rw[List.length_take];omega
   have C:∀i,i<(l.take k).length->¬zI6 ((l.take k).getD i zT) (l.getD k zT):=λi hi=>by
    rw[hl] at hi;rw[zR2 hi];exact hd i k hi zoa
   obtain⟨h3,D⟩:=yIF C;refine⟨?_,?_⟩
   · show adB (plB [] l k) (l.getD k zT)=_
     rw[h1,h3];rw[List.getD_eq_getElem?_getD,List.getElem?_eq_getElem (show k<l.length by omega),List.take_succ_eq_append_getElem (show k<l.length by omega)];rfl
   · show plN [] l k++[adN (plB [] l k) (l.getD k zT)]=rgI k++[(k:Int)]
     rw[h2,h1,D,hl]
theorem zKN{l:List Pt}(hd:zM1 l):bsZ [l]=l:=by
 have h:=(zOB hd l.length (Nat.le_refl _)).1;rw[List.take_length] at h;exact h
theorem yH2{l:List Pt}(hd:zM1 l):bxZ [l]=[rgI l.length]:=congrArg (λz=>[z]) (zOB hd l.length (Nat.le_refl _)).2
theorem zOL{P:List Pt}(ha:0<yR (arZ P 0 1)):ouZ [P]=1:=if_pos ha
theorem yA0{l:List Pt}{lo hi:Rat}(hd:zM1 l)(hs:aE l 0 1)(hl:l.length<=64)(ha:0<yR (arZ l 0 1))(hlh:lo<hi):prE [l] lo hi=0:=by
 unfold prE;rw[if_neg (λe=>e (zFW hs hl ha)),if_neg (λe=>e (zOL ha)),if_neg (λe=>by unfold xT at e;grind),if_neg];unfold prB;rw[zKN hd];have h1:eO [l] [l].length=0+l.length:=I;rw[h1];omega
section
variable {a b:Pt}
def bB(a b:Pt):List Pt:=[T3.mk a.x a.y (0:Rat),T3.mk b.x a.y (0:Rat),T3.mk b.x b.y (0:Rat),T3.mk a.x b.y (0:Rat)]
theorem zRQ(h:eP a b):a.x<b.x/\a.y<b.y/\a.z<b.z:=by
 have g:∀{u v:Rat},¬0<=xT u v->u<v:=λ{u v} h=>Rat.not_le.1 λe=>h (by unfold xT;grind);exact⟨g (h 0 zod),g (h 1 zod),g (h 2 zod)⟩
theorem zBV(hx:a.x<b.x)(hy:a.y<b.y):zM1 (bB a b):=by
 intro i j G D;have C:j<4:=D;have:(i=0/\(j=1\/j=2\/j=3))\/(i=1/\(j=2\/j=3))\/(i=2/\j=3):=by omega
 rcases this with⟨rfl,rfl|rfl|rfl⟩|⟨rfl,rfl|rfl⟩|⟨rfl,rfl⟩<;>(intro e;have J:=e.1;have H:=e.2;simp only[bB,List.getD_cons_zero,List.getD_cons_succ] at J H;grind)
def uI:List PI:=[(0,0),(1,0),(1,1),(0,1)]
theorem yKI:∀m,m<uI.length->pr (gp (bB a b) m) 0 1=ag a.x (b.x-a.x) a.y (b.y-a.y) (gI uI m):=by
 intro m C;have G:m<4:=C;have e0:((0:Int):Rat)=0:=I;have D:((1:Int):Rat)=1:=I;have:m=0\/m=1\/m=2\/m=3:=by omega
 rcases this with rfl|rfl|rfl|rfl<;>(unfold ag;refine Prod.ext ?_ ?_<;>simp[pr,gp,bB,gI,uI,T3.at,e0,D]<;>grind)
theorem yH8(hx:a.x<b.x)(hy:a.y<b.y):aE (bB a b) 0 1:=zE3 (x:=a.x) (p:=b.x-a.x) (y:=a.y) (q:=b.y-a.y) (s:=uI) zoi zoi rfl yKI (by decide +kernel)
theorem yCJ:arZ (bB a b) 0 1=2*((b.x-a.x)*(b.y-a.y)):=by
 unfold arZ;simp[uQ,gp,bB,T3.at];grind
theorem zY8(hx:a.x<b.x)(hy:a.y<b.y):0<yR (arZ (bB a b) 0 1):=by
 rw[yCJ,iX];have:=kG (p:=b.x-a.x) (q:=b.y-a.y) zoi zoi;grind
theorem zY0(h:eP a b):blE a b=0:=by
 obtain⟨hx,hy,hz⟩:=zRQ h;rw[(yCH h).1];exact yA0 (zBV hx hy) (yH8 hx hy) (show 4<=64 by decide) (zY8 hx hy) hz
def cB(a b:Pt)(x y z:Bool):Pt:=T3.mk (if x then b.x else a.x) (if y then b.y else a.y) (if z then b.z else a.z)
def pB0(a b:Pt):List Pt:=[cB a b false false false,cB a b true false false,cB a b true true false,cB a b false true false,cB a b false false true,cB a b true false true,cB a b true true true,cB a b false true true]
theorem zE6(hx:a.x<b.x)(hy:a.y<b.y):ppZ (blL a b) a.z b.z=pB0 a b:=by
 have h:bsZ (blL a b)=bB a b:=zKN (zBV hx hy);unfold ppZ zSK;rw[h]
 show qG _ 8=_
 have G:(bB a b).length=4:=I;have C:∀i:Nat,4<=i->(if((4:Nat):Int)<=(i:Int) then b.z else a.z)=b.z:=λi hi=>if_pos zoa;have D:∀i:Nat,i<4->(if((4:Nat):Int)<=(i:Int) then b.z else a.z)=a.z:=λi hi=>if_neg zoa;simp only[qG,List.nil_append,List.cons_append,G];rw[D 0 zod,D 1 zod,D 2 zod,D 3 zod,C 4 zod,C 5 zod,C 6 zod,C 7 zod]
 rfl
theorem zNE(hx:a.x<b.x)(hy:a.y<b.y):bxZ (blL a b)=[[0,1,2,3]]:=yH2 (zBV hx hy)
def sF(A B:Pt)(i j:Int)(nm:List Nat):Fc:=((T3.mk (B.y-A.y) (-(B.x-A.x)) (0:Rat),xE (T3.mk (B.y-A.y) (-(B.x-A.x)) (0:Rat)) A),[[i,j,j+4,i+4]],nm)
def bF0(a b:Pt):Fc:=((T3.mk (0:Rat) (0:Rat) (-((1:Int):Rat)),-a.z),[[3,2,1,0]],[98,111,116,116,111,109])
def tF0(a b:Pt):Fc:=((T3.mk (0:Rat) (0:Rat) ((1:Int):Rat),b.z),[[4,5,6,7]],[116,111,112])
noncomputable def fB0(a b:Pt):List Fc:=[sF (cB a b false false false) (cB a b true false false) 0 1 (nmS 0 0),sF (cB a b true false false) (cB a b true true false) 1 2 (nmS 0 1),sF (cB a b true true false) (cB a b false true false) 2 3 (nmS 0 2),sF (cB a b false true false) (cB a b false false false) 3 0 (nmS 0 3),bF0 a b,tF0 a b]
theorem zAT(hx:a.x<b.x)(hy:a.y<b.y){k:Nat}(hk:k<4):sdF (blL a b) a.z b.z 0 k=sF ((pB0 a b).getD k zT) ((pB0 a b).getD ((k+1)%4) zT) (k:Int) (((k+1)%4:Nat):Int) (nmS 0 k):=by
 have C:=zNE hx hy;have H:((bsZ (blL a b)).length:Int)=4:=by rw[show bsZ (blL a b)=bB a b from zKN (zBV hx hy)];rfl
 have G:sdA (blL a b) 0 k=(k:Int):=by
  unfold sdA;rw[C];have:k=0\/k=1\/k=2\/k=3:=by omega
  rcases this with rfl|rfl|rfl|rfl<;>rfl
 have D:sdB (blL a b) 0 k=(((k+1)%4:Nat):Int):=by
  unfold sdB;rw[C];have:k=0\/k=1\/k=2\/k=3:=by omega
  rcases this with rfl|rfl|rfl|rfl<;>rfl
 have J:sdN (blL a b) a.z b.z 0 k=T3.mk (((pB0 a b).getD ((k+1)%4) zT).y-((pB0 a b).getD k zT).y) (-(((pB0 a b).getD ((k+1)%4) zT).x-((pB0 a b).getD k zT).x)) (0:Rat):=by
  unfold sdN;rw[zE6 hx hy,G,D,Int.toNat_natCast,Int.toNat_natCast]
 unfold sdF;rw[J,zE6 hx hy,G,D,H,Int.toNat_natCast]
 rfl
theorem zLI(hx:a.x<b.x)(hy:a.y<b.y):prR (blL a b) a.z b.z=(pB0 a b,fB0 a b,[]):=by
 have C:=zNE hx hy;have D:((bsZ (blL a b)).length:Int)=4:=by rw[show bsZ (blL a b)=bB a b from zKN (zBV hx hy)];rfl
 unfold prR;rw[zE6 hx hy];refine congrArg (λz=>(pB0 a b,z,([]:List En))) ?_;have J:zK6 (blL a b) a.z b.z (bxZ (blL a b)).length=[sdF (blL a b) a.z b.z 0 0,sdF (blL a b) a.z b.z 0 1,sdF (blL a b) a.z b.z 0 2,sdF (blL a b) a.z b.z 0 3]:=by
  rw[C]
  show[]++sfX (blL a b) a.z b.z 0 ((bxZ (blL a b)).getD 0 []).length=_
  rw[C];rfl
 have H:btF (blL a b) a.z=bF0 a b:=by
  unfold btF bF0 zYZ;rw[C];rfl
 have G:tpF (blL a b) b.z=tF0 a b:=by
  unfold tpF tF0 zUI tpL;rw[C,D];rfl
 rw[J,H,G,zAT hx hy zod,zAT hx hy zod,zAT hx hy zod,zAT hx hy zod]
 rfl
theorem mQ{n:Nat}(h:n<10):qN (((n:Int):Int):Rat)=[48+n]:=by
 unfold qN;rw[Rat.num_intCast,Rat.den_intCast,if_neg zoa,if_pos bV,Int.natAbs_natCast]
 by_cases h0:n=0
 · subst h0;rfl
 · rw[zZW h0 h];rfl
theorem yGC{k:Nat}(h:k<10):nmS 0 k=[115,48,46,48+k]:=by
 unfold nmS;rw[mQ (n:=0) zod,mQ h];rfl
end
def zDJ(p:Nat->Bool):Nat->Nat
  |0=>0
  |k+1=>if p k then zDJ p k else k+1
theorem zBT{P:Nat->Prop}{p:Nat->Bool}:∀n,(∀k,k<n->(P k↔p k=true))->aK P n=zDJ p n
  |0,_=>rfl
  |n+1,h=>by
   have ih:=zBT n λk hk=>h k zoa;have h1:=h n zoa;unfold aK zDJ;rw[ih]
   by_cases hp:P n
   · rw[if_pos hp,if_pos (h1.1 hp)]
   · rw[if_neg hp,if_neg (λe=>hp (h1.2 e))]
def usB(E:List E5)(i:Nat):Bool:=E.any λe=>decide (e.1=(i:Int))
theorem zUD(E:List E5)(i:Nat):zI1 E E.length i↔usB E i=true:=by
 unfold usB;rw[List.any_eq_true];constructor
 · rintro⟨q,C,h⟩
   exact⟨_,kY C,decide_eq_true h⟩
 · rintro⟨e,D,h⟩
   obtain⟨q,C,rfl⟩:=List.getElem_of_mem D;refine⟨q,C,?_⟩;rw[List.getD_eq_getElem?_getD,List.getElem?_eq_getElem C];exact of_decide_eq_true h
def orB(E:List E5)(lt:Nat->Nat->Bool):Nat->List Int
  |0=>[]
  |i+1=>if usB E i then iK (orB E lt i) (zDJ (λk=>lt i ((orB E lt i).getD k 0).toNat) (orB E lt i).length) (i:Int) else orB E lt i
theorem zOO{s:Sd}{lt:Nat->Nat->Bool}{n:Nat}(h:∀i k,i<n->k<n->(lsP (gp s.1 i) (gp s.1 k)↔lt i k=true)):∀i,i<=n->aG s i=orB (edZ (vO s)) lt i
  |0,_=>rfl
  |i+1,hi=>by
   have ih:=zOO h i zoa;unfold aG orB;have hb:aK (zST s (aG s i) i) (aG s i).length=zDJ (λk=>lt i ((orB (edZ (vO s)) lt i).getD k 0).toNat) (orB (edZ (vO s)) lt i).length:=by
    rw[<-ih];refine zBT _ λk C=>?_;have:=mZ C;exact h i _ zoa zoa
   rw[hb,ih]
   by_cases hu:zI1 (edZ (vO s)) (edZ (vO s)).length i
   · rw[if_pos hu,if_pos ((zUD _ _).1 hu)]
   · rw[if_neg hu,if_neg (λe=>hu ((zUD _ _).2 e))]
abbrev B3:=Bool×Bool×Bool
def lt3(u v:B3):Bool:=(!u.1&&v.1)||(u.1==v.1&&((!u.2.1&&v.2.1)||(u.2.1==v.2.1&&(!u.2.2&&v.2.2))))
def cU(a b:Pt)(u:B3):Pt:=cB a b u.1 u.2.1 u.2.2
variable {a b:Pt}
theorem zTI(hx:a.x<b.x)(hy:a.y<b.y)(hz:a.z<b.z)(u v:B3):lsP (cU a b u) (cU a b v)↔lt3 u v=true:=by
 obtain⟨D,C,u3⟩:=u;obtain⟨v1,v2,v3⟩:=v
 cases D<;>cases C<;>cases u3<;>cases v1<;>cases v2<;>cases v3<;>simp[lsP,cU,cB,lt3]<;>grind
theorem yHZ(hx:a.x<b.x)(hy:a.y<b.y)(hz:a.z<b.z){u v:B3}(h:cU a b u=cU a b v):u=v:=by
 obtain⟨D,C,u3⟩:=u;obtain⟨v1,v2,v3⟩:=v;have h1:=congrArg T3.x h;have h2:=congrArg T3.y h;have h3:=congrArg T3.z h
 cases D<;>cases C<;>cases u3<;>cases v1<;>cases v2<;>cases v3<;>first|rfl|(exfalso;simp[cU,cB] at h1 h2 h3;grind)
def uB0:List B3:=[(false,false,false),(true,false,false),(true,true,false),(false,true,false),(false,false,true),(true,false,true),(true,true,true),(false,true,true)]
theorem mX:pB0 a b=uB0.map (cU a b):=rfl
theorem zBJ{l:List B3}{i:Nat}(h:i<l.length):gp (l.map (cU a b)) i=cU a b (l.getD i (false,false,false)):=by
 unfold gp;rw[List.getD_eq_getElem?_getD,List.getD_eq_getElem?_getD,List.getElem?_map,List.getElem?_eq_getElem h];rfl
theorem zH1(hx:a.x<b.x)(hy:a.y<b.y)(hz:a.z<b.z){l:List B3}{F:List Fc}{E:List En}:fL (l.map (cU a b),F,E)=orB (edZ (vO (l.map (cU a b),F,E))) (λi k=>lt3 (l.getD i (false,false,false)) (l.getD k (false,false,false))) l.length:=by
 unfold fL;rw[show(l.map (cU a b),F,E).1.length=l.length from List.length_map _];refine zOO (n:=l.length) (λi k hi C=>?_) _ (Nat.le_refl _)
 show lsP (gp (l.map (cU a b)) i) (gp (l.map (cU a b)) k)↔_
 rw[zBJ hi,zBJ C];exact zTI hx hy hz _ _
theorem iJ:vO (pB0 a b,fB0 a b,[])=[[[0,1,5,4]],[[1,2,6,5]],[[2,3,7,6]],[[3,0,4,7]],[[3,2,1,0]],[[4,5,6,7]]]:=rfl
theorem zLQ(hx:a.x<b.x)(hy:a.y<b.y)(hz:a.z<b.z):fL (pB0 a b,fB0 a b,[])=[0,4,3,7,1,5,2,6]:=by
 rw[mX,zH1 hx hy hz,<-mX,iJ]
 decide +kernel
theorem bF{α:Type}{p:Nat->Prop}{g:Nat->α}:∀{n},(∀i,i<n->¬p i)->cH p g n=[]
  |0,_=>rfl
  |n+1,h=>by
   rw[<-zAR (h n zoa)];exact bF λi hi=>h i zoa
theorem zCS{α:Type}{g:Nat->List α}:∀{n},(∀i,i<n->g i=[])->tO g n=[]
  |0,_=>rfl
  |n+1,h=>by
   show tO g n++g n=[]
   rw[h n zoa,zCS λi hi=>h i zoa];rfl
def tmB(E:List E5)(a b:Int):Nat->Int
  |0=>0
  |m+1=>if(E.getD m ((0:Int),(0:Int),(0:Int),(0:Int),(0:Int))).1=a/\(E.getD m ((0:Int),(0:Int),(0:Int),(0:Int),(0:Int))).2.1=b then tmB E a b m+1 else tmB E a b m
theorem zNP(E:List E5)(a b:Int):∀m,zAI E a b m=tmB E a b m
  |0=>rfl
  |m+1=>by
   unfold zAI tmB;rw[zNP E a b m]
   by_cases h:yB8 (E.getD m ((0:Int),(0:Int),(0:Int),(0:Int),(0:Int))) a b
   · rw[if_pos h];exact(if_pos h).symm
   · rw[if_neg h];exact(if_neg h).symm
def clB(E:List E5):Bool:=(List.range E.length).all λi=>!decide (tmB E (E.getD i ((0:Int),(0:Int),(0:Int),(0:Int),(0:Int))).2.1 (E.getD i ((0:Int),(0:Int),(0:Int),(0:Int),(0:Int))).1 E.length<tmB E (E.getD i ((0:Int),(0:Int),(0:Int),(0:Int),(0:Int))).1 (E.getD i ((0:Int),(0:Int),(0:Int),(0:Int),(0:Int))).2.1 E.length)
theorem yDG{F:List (List (List Int))}(hv:vaP F)(h:clB (edZ F)=true):clZ F=[]:=by
 unfold clZ;rw[if_pos hv];unfold yHX;refine bF λi hi=>?_;have h1:=List.all_eq_true.1 h i (List.mem_range.2 hi);rw[Bool.not_eq_true',decide_eq_false_iff_not] at h1;unfold yJ1 tmZ;rw[zNP,zNP];exact h1
theorem yCV{s:Sd}(hb:¬zNF s)(hf:∀f,f<s.2.1.length->vfP (s.2.1.getD f zA).2.1/\nmP s f):szZ s=[]:=by
 unfold szZ;rw[if_neg hb];exact bF λf C e=>by
  rcases e with e|e
  · exact e (hf f C).1
  · exact e (hf f C).2
theorem yCT{s:Sd}(h:∀i k,k<i->i<s.1.length->¬gp s.1 i=gp s.1 k):zKV s s.1.length=[]:=bF λi hi e=>by
 obtain⟨k,hk,e⟩:=e;exact h i k hk hi e
theorem yCX{s:Sd}(hz:∀f,f<s.2.1.length->¬(s.2.1.getD f zA).1.1=zT)(ho:∀f,f<s.2.1.length->∀l,l<(xG s f).length->∀k,k<(gl (xG s f) l).length->sdZ (s.2.1.getD f zA).1 (gp (gl (xG s f) l) k)=0):plZ s=[]:=by
 have h1:zRX s s.2.1.length=[]:=bF λf C e=>hz f C e;have h2:zOP s s.2.1.length=[]:=zCS λf C=>zCS λl D=>bF λk G e=>e (ho f C l D k G);unfold plZ;rw[h1,h2];rfl
theorem yC1{s:Sd}(h:∀f,f<s.2.1.length->vZ (gJ s f) 0 1=0/\ouZ (gJ s f)=1):neZ s=[]:=by
 have h1:zYX s s.2.1.length=[]:=bF λf C e=>e (h f C).1;have h2:yGE s s.2.1.length=[]:=bF λf C e=>e (h f C).2;unfold neZ;rw[h1,h2];rfl
theorem zP6{s:Sd}(h1:szZ s=[])(h2:zKV s s.1.length=[])(h3:plZ s=[])(h4:neZ s=[])(h5:clZ (vO s)=[]):gC s:=by
 unfold gC zYP;rw[h1,h2,h3,h4,h5];rfl
theorem yJ9{s:Sd}{f:Nat}{i j k l:Int}(hf:f<s.2.1.length)(hn:nmP s f)(hl:(s.2.1.getD f zA).2.1=[[i,j,k,l]]):xG s f=[[gp s.1 i.toNat,gp s.1 j.toNat,gp s.1 k.toNat,gp s.1 l.toNat]]:=by
 rw[zPR hf hn,hl];unfold zGP;rw[hl];rfl
theorem zQ5{s:Sd}{f:Nat}{A B C D:Pt}(h:xG s f=[[A,B,C,D]]):gJ s f=[[qC (s.2.1.getD f zA).1 A,qC (s.2.1.getD f zA).1 B,qC (s.2.1.getD f zA).1 C,qC (s.2.1.getD f zA).1 D]]:=by
 unfold gJ;rw[h];rfl
theorem yFS{x p y q:Rat}(hp:0<p)(hq:0<q){l:List Pt}{t:List PI}(ht:t=[(0,0),(1,0),(1,1),(0,1)]\/t=[(1,0),(1,1),(0,1),(0,0)]\/t=[(1,1),(0,1),(0,0),(1,0)]\/t=[(0,1),(0,0),(1,0),(1,1)])
    (hl:l=t.map λu=>T3.mk (x+p*(u.1:Rat)) (y+q*(u.2:Rat)) (0:Rat)):vZ [l] 0 1=0/\ouZ [l]=1:=by
 have U:t.length=4:=by rcases ht with rfl|rfl|rfl|rfl<;>rfl
 have D:l.length=t.length:=by rw[hl,List.length_map]
 have J:∀m,m<t.length->pr (gp l m) 0 1=ag x p y q (gI t m):=λm H=>by
  rw[hl];unfold gp gI;rw[List.getD_eq_getElem?_getD,List.getD_eq_getElem?_getD,List.getElem?_map,List.getElem?_eq_getElem H]
  rfl
 have G:aE l 0 1:=zE3 hp hq D J (by rcases ht with rfl|rfl|rfl|rfl<;>decide +kernel);have e0:((0:Int):Rat)=0:=I;have O:((1:Int):Rat)=1:=I;have M:arZ l 0 1=2*(p*q):=by
  unfold arZ
  rcases ht with rfl|rfl|rfl|rfl<;>(subst hl;simp[uQ,gp,T3.at,e0,O];grind)
 have C:0<yR (arZ l 0 1):=by
  rw[M,iX];have:=kG hp hq;grind
 exact⟨zFW G zoa C,zOL C⟩
abbrev Dir:=Nat×Bool
def dI:Dir->Nat
  |(2,true)=>0|(2,false)=>1|(1,true)=>2|(1,false)=>0|(_,true)=>1|(_,false)=>2
def dJ:Dir->Nat
  |(2,true)=>1|(2,false)=>0|(1,true)=>0|(1,false)=>2|(_,true)=>2|(_,false)=>1
def dN(d:Dir)(c:Rat):Pt:=(zT).set d.1 (if d.2 then c else -c)
def zT2(u:B3):Nat->Bool
  |0=>u.1|1=>u.2.1|_=>u.2.2
def bI(x:Bool):Int:=if x then 1 else 0
def pI2(d:Dir)(u:B3):PI:=(bI (zT2 u (dI d)),bI (zT2 u (dJ d)))
variable {a b:Pt}
theorem yDI(u:B3)(i:Nat):(cU a b u).at i=if zT2 u i then b.at i else a.at i:=by
 obtain⟨D,C,u3⟩:=u
 match i with
 |0=>rfl
 |1=>rfl
 |n+2=>rfl
theorem zYQ(u:B3)(i:Nat):(cU a b u).at i=a.at i+(b.at i-a.at i)*((bI (zT2 u i):Int):Rat):=by
 rw[yDI];have e0:((0:Int):Rat)=0:=I;have C:((1:Int):Rat)=1:=I;unfold bI
 split
 · rw[C];grind
 · rw[e0];grind
theorem zKP{d:Dir}{c:Rat}(hd:d.1<3)(hc:0<c):axI (dN d c)=dI d/\axJ (dN d c)=dJ d/\¬dN d c=zT:=by
 obtain⟨C,D⟩:=d;have h3:C=0\/C=1\/C=2:=by have:C<3:=hd;omega
 have H:¬dN (C,D) c=zT:=λe=>by
  have h1:=congrArg T3.x e;have h2:=congrArg T3.y e;have G:=congrArg T3.z e
  rcases h3 with rfl|rfl|rfl<;>cases D<;>simp[dN,T3.set] at h1 h2 G<;>grind
 refine⟨?_,?_,H⟩
 · rcases h3 with rfl|rfl|rfl<;>cases D<;>simp[dN,T3.set,axI,dI]<;>grind
 · rcases h3 with rfl|rfl|rfl<;>cases D<;>simp[dN,T3.set,axJ,dJ]<;>grind
def zEL(d:Dir)(us:List B3):Bool:=(us.all λu=>zT2 u d.1==d.2)&&(decide (us.map (pI2 d)=[(0,0),(1,0),(1,1),(0,1)])||decide (us.map (pI2 d)=[(1,0),(1,1),(0,1),(0,0)])||decide (us.map (pI2 d)=[(1,1),(0,1),(0,0),(1,0)])||decide (us.map (pI2 d)=[(0,1),(0,0),(1,0),(1,1)]))
theorem zQ8{d:Dir}{c o:Rat}(hd:d.1<3)(hc:0<c)(u:B3):qC (dN d c,o) (cU a b u)=T3.mk (a.at (dI d)+(b.at (dI d)-a.at (dI d))*(((pI2 d u).1:Int):Rat)) (a.at (dJ d)+(b.at (dJ d)-a.at (dJ d))*(((pI2 d u).2:Int):Rat)) (0:Rat):=by
 unfold qC;rw[(zKP hd hc).1,(zKP hd hc).2.1,zYQ,zYQ];rfl
theorem zIN{d:Dir}{c o:Rat}(hd:d.1<3)(hc:0<c)(h:∀i,a.at i<b.at i){us:List B3}(ht:zEL d us=true):vZ [us.map λu=>qC (dN d c,o) (cU a b u)] 0 1=0/\ouZ [us.map λu=>qC (dN d c,o) (cU a b u)]=1:=by
 unfold zEL at ht;simp only[Bool.and_eq_true,Bool.or_eq_true,decide_eq_true_iff] at ht;refine yFS (x:=a.at (dI d)) (p:=b.at (dI d)-a.at (dI d)) (y:=a.at (dJ d)) (q:=b.at (dJ d)-a.at (dJ d)) (t:=us.map (pI2 d)) (by have:=h (dI d);grind) (by have:=h (dJ d);grind) ?_ ?_
 · rcases ht.2 with((h1|h1)|h1)|h1
   · exact .inl h1
   · exact .inr (.inl h1)
   · exact .inr (.inr (.inl h1))
   · exact .inr (.inr (.inr h1))
 · rw[List.map_map]
   exact List.map_congr_left λu _=>zQ8 hd hc u
theorem zTR{d:Dir}{c:Rat}(hd:d.1<3){u:B3}(hu:zT2 u d.1=d.2):sdZ (dN d c,(if d.2 then c else -c)*(if d.2 then b.at d.1 else a.at d.1)) (cU a b u)=0:=by
 unfold sdZ hgt;have e:=yDI (a:=a) (b:=b) u d.1;rw[hu] at e;obtain⟨C,D⟩:=d;have h3:C=0\/C=1\/C=2:=by have:C<3:=hd;omega
 have h0:xE (dN (C,D) c) (cU a b u)=(if D then c else -c)*(cU a b u).at C:=by
  rcases h3 with rfl|rfl|rfl<;>(simp only[xE,dN,T3.set,T3.at];grind)
 rw[h0,e];refine if_pos ?_
 show _*_-_*_=(0:Rat)
 grind
abbrev u0:B3:=(false,false,false)
def mL(a b:Pt)(us:List B3)(d:Dir)(f:Fc):Prop:=
 d.1<3/\∃c,0<c/\f.1=(dN d c,(if d.2 then c else -c)*(if d.2 then b.at d.1 else a.at d.1))/\∃i j k l:Nat,f.2.1=[[(i:Int),(j:Int),(k:Int),(l:Int)]]/\(i<us.length/\j<us.length/\k<us.length/\l<us.length)/\zEL d [us.getD i u0,us.getD j u0,us.getD k u0,us.getD l u0]=true
section
variable {us:List B3}{F:List Fc}
theorem zYV{d:Dir}{f:Nat}(h:mL a b us d (F.getD f zA)):nmP (us.map (cU a b),F,[]) f:=by
 obtain⟨_,c,_,_,i,j,k,l,O,⟨h1,h2,h3,U⟩,_⟩:=h;intro m M q J
 show 0<=_/\_<(((us.map (cU a b)).length:Nat):Int)
 rw[List.length_map];have D:m<((F.getD f zA).2.1).length:=M;have C:q<(((F.getD f zA).2.1).getD m []).length:=J
 show 0<=(((F.getD f zA).2.1).getD m []).getD q 0/\(((F.getD f zA).2.1).getD m []).getD q 0<_
 rw[O] at D C ⊢;have G:m=0:=by have:m<1:=D;omega
 subst G;have H:q<4:=C;have:q=0\/q=1\/q=2\/q=3:=by omega
 rcases this with rfl|rfl|rfl|rfl
 · show 0<=(i:Int)/\(i:Int)<_;omega
 · show 0<=(j:Int)/\(j:Int)<_;omega
 · show 0<=(k:Int)/\(k:Int)<_;omega
 · show 0<=(l:Int)/\(l:Int)<_;omega
theorem zBU{d:Dir}{f:Nat}(hf:f<F.length)(h:mL a b us d (F.getD f zA)):∃vs:List B3,zEL d vs=true/\vs.length=4/\xG (us.map (cU a b),F,[]) f=[vs.map (cU a b)]:=by
 have D:=zYV h;obtain⟨_,c,_,_,i,j,k,l,G,⟨h1,h2,h3,H⟩,C⟩:=h;refine⟨[us.getD i u0,us.getD j u0,us.getD k u0,us.getD l u0],C,I,?_⟩;rw[yJ9 (s:=(us.map (cU a b),F,[])) hf D G]
 show[[gp (us.map (cU a b)) _,gp (us.map (cU a b)) _,gp (us.map (cU a b)) _,gp (us.map (cU a b)) _]]=_
 rw[Int.toNat_natCast,Int.toNat_natCast,Int.toNat_natCast,Int.toNat_natCast,zBJ h1,zBJ h2,zBJ h3,zBJ H];rfl
theorem zKO(h:a.x<b.x/\a.y<b.y/\a.z<b.z)(hn:∀i k,k<i->i<us.length->¬us.getD i u0=us.getD k u0)(hu:us.length<=512/\F.length<=256)(hF:∀f,f<F.length->∃d,mL a b us d (F.getD f zA))(hv:∀f,f<F.length->vfP (F.getD f zA).2.1)
    (hva:vaP (vO (us.map (cU a b),F,[])))(hc:clB (edZ (vO (us.map (cU a b),F,[])))=true):gC (us.map (cU a b),F,[]):=by
 have ae:∀i,a.at i<b.at i:=λi=>match i with
  |0=>h.1|1=>h.2.1|_+2=>h.2.2
 have ab:(us.map (cU a b)).length=us.length:=List.length_map _;refine zP6 (yCV (λe=>?_) λf D=>?_) (yCT λi k ad hi e=>?_) (yCX (λf D=>?_) λf D l hl k hk=>?_) (yC1 λf D=>?_) (yDG hva hc)
 · rcases e with(e|e)|e
   · have U:512<(us.map (cU a b)).length:=e
     omega
   · have U:256<F.length:=e
     omega
   · have U:1024<([]:List En).length:=e
     simp at U
 · obtain⟨d,M⟩:=hF f D
   exact⟨hv f D,zYV M⟩
 · have aa:i<us.length:=by rw[<-ab];exact hi
   have U:gp (us.map (cU a b)) i=gp (us.map (cU a b)) k:=e;rw[zBJ aa,zBJ zoa] at U;exact hn i k ad aa (yHZ h.1 h.2.1 h.2.2 U)
 · obtain⟨d,C,c,G,hp,_⟩:=hF f D
   show ¬(F.getD f zA).1.1=zT
   rw[hp];exact(zKP C G).2.2
 · obtain⟨d,M⟩:=hF f D
   obtain⟨H,Z,h4,O⟩:=zBU D M;obtain⟨C,c,G,hp,_⟩:=M;rw[O] at hl hk ⊢;have ac:l=0:=by have:l<1:=hl;omega
   subst ac;have J:k<(H.map (cU a b)).length:=hk;rw[List.length_map] at J
   show sdZ (F.getD f zA).1 (gp (H.map (cU a b)) k)=0
   rw[hp,zBJ J];refine zTR C ?_;unfold zEL at Z;simp only[Bool.and_eq_true] at Z;have h9:=List.all_eq_true.1 Z.1 (H.getD k u0) (kY J);exact eq_of_beq h9
 · obtain⟨d,M⟩:=hF f D
   obtain⟨H,Z,h4,O⟩:=zBU D M;obtain⟨C,c,G,hp,_⟩:=M;have e:gJ (us.map (cU a b),F,[]) f=[H.map λu=>qC (F.getD f zA).1 (cU a b u)]:=by
    obtain⟨v1,v2,v3,v4,rfl⟩:∃v1 v2 v3 v4,H=[v1,v2,v3,v4]:=by
     match H,h4 with
     |[v1,v2,v3,v4],_=>exact⟨_,_,_,_,rfl⟩
    exact zQ5 O
   rw[e,hp];exact zIN C G ae Z
end
instance decLp(x:List Int):Decidable (lpP x):=by unfold lpP;exact inferInstance
instance decVf(L:List (List Int)):Decidable (vfP L):=by unfold vfP;exact inferInstance
instance decVa(F:List (List (List Int))):Decidable (vaP F):=by unfold vaP;exact inferInstance
variable {a b:Pt}
theorem zHY{N M:Pt}{o r:Rat}(h1:N=M)(h2:o=r):(N,o)=(M,r):=by rw[h1,h2]
theorem zRA(h:a.x<b.x/\a.y<b.y/\a.z<b.z):mL a b uB0 (1,false) ((fB0 a b).getD 0 zA)/\mL a b uB0 (0,true) ((fB0 a b).getD 1 zA)/\mL a b uB0 (1,true) ((fB0 a b).getD 2 zA)/\mL a b uB0 (0,false) ((fB0 a b).getD 3 zA)/\mL a b uB0 (2,false) ((fB0 a b).getD 4 zA)/\mL a b uB0 (2,true) ((fB0 a b).getD 5 zA):=by
 obtain⟨hx,hy,hz⟩:=h;refine⟨?_,?_,?_,?_,?_,?_⟩
 · refine⟨by decide,b.x-a.x,by grind,zHY ?_ ?_,0,1,5,4,I,by decide,by decide⟩
   · show T3.mk (a.y-a.y) (-(b.x-a.x)) (0:Rat)=T3.mk 0 (-(b.x-a.x)) 0
     rw[tR];refine⟨?_,I,I⟩;show a.y-a.y=0;grind
   · show xE (T3.mk (a.y-a.y) (-(b.x-a.x)) (0:Rat)) (T3.mk a.x a.y a.z)= -(b.x-a.x)*a.y
     unfold xE;simp only;grind
 · refine⟨by decide,b.y-a.y,by grind,zHY ?_ ?_,1,2,6,5,I,by decide,by decide⟩
   · show T3.mk (b.y-a.y) (-(b.x-b.x)) (0:Rat)=T3.mk (b.y-a.y) 0 0
     rw[tR];refine⟨I,?_,I⟩;show -(b.x-b.x)=0;grind
   · show xE (T3.mk (b.y-a.y) (-(b.x-b.x)) (0:Rat)) (T3.mk b.x a.y a.z)=(b.y-a.y)*b.x
     unfold xE;simp only;grind
 · refine⟨by decide,b.x-a.x,by grind,zHY ?_ ?_,2,3,7,6,I,by decide,by decide⟩
   · show T3.mk (b.y-b.y) (-(a.x-b.x)) (0:Rat)=T3.mk 0 (b.x-a.x) 0
     rw[tR];refine⟨?_,?_,I⟩
     · show b.y-b.y=0;grind
     · show -(a.x-b.x)=b.x-a.x;grind
   · show xE (T3.mk (b.y-b.y) (-(a.x-b.x)) (0:Rat)) (T3.mk b.x b.y a.z)=(b.x-a.x)*b.y
     unfold xE;simp only;grind
 · refine⟨by decide,b.y-a.y,by grind,zHY ?_ ?_,3,0,4,7,I,by decide,by decide⟩
   · show T3.mk (a.y-b.y) (-(a.x-a.x)) (0:Rat)=T3.mk (-(b.y-a.y)) 0 0
     rw[tR];refine⟨?_,?_,I⟩
     · show a.y-b.y= -(b.y-a.y);grind
     · show -(a.x-a.x)=0;grind
   · show xE (T3.mk (a.y-b.y) (-(a.x-a.x)) (0:Rat)) (T3.mk a.x b.y a.z)= -(b.y-a.y)*a.x
     unfold xE;simp only;grind
 · refine⟨by decide,1,by decide,zHY I ?_,3,2,1,0,I,by decide,by decide⟩
   show -a.z= -1*a.z
   grind
 · refine⟨by decide,1,by decide,zHY I ?_,4,5,6,7,I,by decide,by decide⟩
   show b.z=1*b.z
   grind
theorem zRB(h:a.x<b.x/\a.y<b.y/\a.z<b.z):∀f,f<(fB0 a b).length->∃d,mL a b uB0 d ((fB0 a b).getD f zA):=by
 intro f D;have C:f<6:=D;obtain⟨h0,h1,h2,h3,H,G⟩:=zRA h;have:f=0\/f=1\/f=2\/f=3\/f=4\/f=5:=by omega
 rcases this with rfl|rfl|rfl|rfl|rfl|rfl
 · exact⟨_,h0⟩
 · exact⟨_,h1⟩
 · exact⟨_,h2⟩
 · exact⟨_,h3⟩
 · exact⟨_,H⟩
 · exact⟨_,G⟩
theorem zHT(h:a.x<b.x/\a.y<b.y/\a.z<b.z):gC (pB0 a b,fB0 a b,[]):=by
 have g:∀i,i<uB0.length->∀k,k<i->¬uB0.getD i u0=uB0.getD k u0:=by decide +kernel
 rw[mX];refine zKO h (λi k C hi=>g i hi k C) ⟨by decide,show 6<=256 by decide⟩ (zRB h) (λf G=>?_) ?_ ?_
 · have D:f<6:=G
   have:f=0\/f=1\/f=2\/f=3\/f=4\/f=5:=by omega
   rcases this with rfl|rfl|rfl|rfl|rfl|rfl
   · show vfP [[0,1,5,4]];decide +kernel
   · show vfP [[1,2,6,5]];decide +kernel
   · show vfP [[2,3,7,6]];decide +kernel
   · show vfP [[3,0,4,7]];decide +kernel
   · show vfP [[3,2,1,0]];decide +kernel
   · show vfP [[4,5,6,7]];decide +kernel
 · rw[<-mX,iJ];decide +kernel
 · rw[<-mX,iJ];decide +kernel
variable {a b:Pt}
def ixB(o:List Int)(n:Nat):Nat->List Int
  |0=>List.replicate n (0:Int)
  |i+1=>(ixB o n i).set (o.getD i 0).toNat (i:Int)
theorem zPJ{s:Sd}{o:List Int}(h:fL s=o):∀i,zHD s i=ixB o s.1.length i
  |0=>rfl
  |i+1=>by unfold zHD ixB;rw[zPJ h i,h]
theorem zXL(h:a.x<b.x/\a.y<b.y/\a.z<b.z):ixZ (pB0 a b,fB0 a b,[])=[0,4,6,2,1,5,7,3]:=by
 have C:=zLQ h.1 h.2.1 h.2.2;unfold ixZ;rw[zPJ C,C]
 show ixB _ 8 8=_
 decide
def uB1:List B3:=[(false,false,false),(false,false,true),(false,true,false),(false,true,true),(true,false,false),(true,false,true),(true,true,false),(true,true,true)]
theorem zWR(h:a.x<b.x/\a.y<b.y/\a.z<b.z):nrP (pB0 a b,fB0 a b,[])=uB1.map (cU a b):=by
 have C:=zLQ h.1 h.2.1 h.2.2;unfold nrP;rw[if_pos (zHT h)];unfold zWS;rw[C];rfl
theorem zQG(h:a.x<b.x/\a.y<b.y/\a.z<b.z){us:List B3}{F:List Fc}{f:Nat}(hf:f<F.length){d:Dir}(hd:mL a b us d (F.getD f zA)):zDO (us.map (cU a b),F,[]) f 0:=by
 have H:∀i,a.at i<b.at i:=λi=>match i with
  |0=>h.1|1=>h.2.1|_+2=>h.2.2
 obtain⟨J,O,h4,D⟩:=zBU hf hd;obtain⟨C,c,G,U,_⟩:=hd;obtain⟨v1,v2,v3,v4,rfl⟩:∃v1 v2 v3 v4,J=[v1,v2,v3,v4]:=by
  match J,h4 with
  |[v1,v2,v3,v4],_=>exact⟨_,_,_,_,rfl⟩
 have e:gJ (us.map (cU a b),F,[]) f=[[v1,v2,v3,v4].map λu=>qC (F.getD f zA).1 (cU a b u)]:=zQ5 D;have M:=(zIN (o:=(F.getD f zA).1.2) C G H O).2;unfold zDO;rw[e];have e2:(F.getD f zA).1=(dN d c,(F.getD f zA).1.2):=by rw[U]
 rw[e2];refine Classical.byContradiction λZ=>?_;have h0:ouZ [[v1,v2,v3,v4].map λu=>qC (dN d c,(F.getD f zA).1.2) (cU a b u)]=0:=if_neg Z;rw[h0] at M;exact absurd M zod
theorem yFP{d:Dir}{c r:Rat}(hd:d.1<3)(hc:0<c):scZ (dN d c,(if d.2 then c else -c)*r)=(dN d 1,(if d.2 then 1 else -1)*r):=by
 obtain⟨G,J⟩:=d;have h3:G=0\/G=1\/G=2:=by have:G<3:=hd;omega
 have H:∀{x:Rat},x≠0->¬yR x=0:=λ{x} hx e=>by unfold yR at e;rw[if_neg hx] at e;split at e<;>omega
 have hz:yR 0=0:=if_pos I;have D:c≠0:=by grind
 have C:-c≠0:=by grind
 have U:ivA c*c=1/\ivA (-c)*c=1:=by
  have Z:((1:Int):Rat)=1:=I;have O:¬c.num<0:=Int.not_lt.2 (Rat.num_nonneg.2 (Rat.le_of_lt hc));have M:(-c).num<0:=Int.not_le.1 λe=>by have:=Rat.num_nonneg.1 e;grind
  have a1:iQ c=c:=if_neg O;have a2:iQ (-c)=c:=by
   have:iQ (-c)= - -c:=if_pos M;rw[this];grind
  unfold ivA;rw[a1,a2,if_neg D,Z];grind
 rcases h3 with rfl|rfl|rfl<;>cases J<;>simp[scZ,dN,T3.set,hz,H D,H C,scW]<;>grind
variable {a b:Pt}
def plD(a b:Pt)(d:Dir):Pl:=(dN d 1,(if d.2 then 1 else -1)*(if d.2 then b.at d.1 else a.at d.1))
theorem aB(h:a.x<b.x/\a.y<b.y/\a.z<b.z){us:List B3}{F:List Fc}{f:Nat}(hf:f<F.length){d:Dir}(hd:mL a b us d (F.getD f zA))(ix:List Int){x:List Int}(hx:(F.getD f zA).2.1=[x]):
 nfF (us.map (cU a b),F,[]) ix f=(plD a b d,[zSG (qG (λq=>ix.getD (x.getD q 0).toNat 0) x.length)],(F.getD f zA).2.2):=by
 have H:=zQG h hf hd;obtain⟨D,c,G,C,_⟩:=hd;unfold nfF
 show(scZ (F.getD f zA).1,ouL (us.map (cU a b),F,[]) ix f ((F.getD f zA).2.1).length++s6 (us.map (cU a b),F,[]) ix f ((F.getD f zA).2.1).length,(F.getD f zA).2.2)=_
 rw[C,yFP D G,hx];have O:ouL (us.map (cU a b),F,[]) ix f 1=[nfL (us.map (cU a b),F,[]) ix f 0]:=by
  unfold ouL;rw[<-zAQ H];rfl
 have M:s6 (us.map (cU a b),F,[]) ix f 1=[]:=if_pos H
 show(_,ouL _ ix f 1++s6 _ ix f 1,_)=_
 rw[O,M];have J:nfL (us.map (cU a b),F,[]) ix f 0=zSG (qG (λq=>ix.getD (x.getD q 0).toNat 0) x.length):=by
  unfold nfL nwL
  show zSG (qG (λq=>ix.getD ((((F.getD f zA).2.1).getD 0 []).getD q 0).toNat 0) (((F.getD f zA).2.1).getD 0 []).length)=_
  rw[hx];rfl
 rw[J];rfl
theorem zWT(h:a.x<b.x/\a.y<b.y/\a.z<b.z)(ix:List Int)(hix:ix=[0,4,6,2,1,5,7,3]):
 nfF (pB0 a b,fB0 a b,[]) ix 0=(plD a b (1,false),[[0,4,5,1]],nmS 0 0)/\nfF (pB0 a b,fB0 a b,[]) ix 1=(plD a b (0,true),[[4,6,7,5]],nmS 0 1)/\nfF (pB0 a b,fB0 a b,[]) ix 2=(plD a b (1,true),[[2,3,7,6]],nmS 0 2)/\
 nfF (pB0 a b,fB0 a b,[]) ix 3=(plD a b (0,false),[[0,1,3,2]],nmS 0 3)/\nfF (pB0 a b,fB0 a b,[]) ix 4=(plD a b (2,false),[[0,2,6,4]],[98,111,116,116,111,109])/\nfF (pB0 a b,fB0 a b,[]) ix 5=(plD a b (2,true),[[1,5,7,3]],[116,111,112]):=by
 subst hix;have g:=zRA h;rw[mX];refine⟨?_,?_,?_,?_,?_,?_⟩
 · rw[aB h (F:=fB0 a b) (f:=0) (show 0<6 by decide) g.1 _ (x:=[0,1,5,4]) I];rfl
 · rw[aB h (F:=fB0 a b) (f:=1) (show 1<6 by decide) g.2.1 _ (x:=[1,2,6,5]) I];rfl
 · rw[aB h (F:=fB0 a b) (f:=2) (show 2<6 by decide) g.2.2.1 _ (x:=[2,3,7,6]) I];rfl
 · rw[aB h (F:=fB0 a b) (f:=3) (show 3<6 by decide) g.2.2.2.1 _ (x:=[3,0,4,7]) I];rfl
 · rw[aB h (F:=fB0 a b) (f:=4) (show 4<6 by decide) g.2.2.2.2.1 _ (x:=[3,2,1,0]) I];rfl
 · rw[aB h (F:=fB0 a b) (f:=5) (show 5<6 by decide) g.2.2.2.2.2 _ (x:=[4,5,6,7]) I];rfl
def lsB:List Nat->List Nat->Bool
  |[],[]=>false
  |[],_::_=>true
  |_::_,[]=>false
  |x::a,y::b=>if x=y then lsB a b else decide (x<y)
theorem zXA:∀a b:List Nat,lsN a b↔lsB a b=true
  |[],[]=>by simp[lsN,lsB]
  |[],_::_=>by simp[lsN,lsB]
  |_::_,[]=>by simp[lsN,lsB]
  |x::a,y::b=>by
   have ih:=zXA a b
   by_cases h:x=y
   · simp[lsN,lsB,h,ih]
   · simp[lsN,lsB,h]
def nsB(nm:Nat->List Nat):Nat->List Nat
  |0=>[]
  |f+1=>iK (nsB nm f) (zDJ (λk=>lsB (nm f) (nm ((nsB nm f).getD k 0))) (nsB nm f).length) f
theorem zJX(nm:Nat->List Nat):∀f x,x∈nsB nm f->x<f
  |f+1,x,h=>by
   unfold nsB iK at h
   rcases List.mem_append.1 h with h|h
   · have:=zJX nm f x (List.mem_of_mem_take h);omega
   · rcases List.mem_cons.1 h with rfl|h
     · omega
     · have:=zJX nm f x (List.mem_of_mem_drop h);omega
theorem zXQ{α β:Type}(g:α->β)(l:List α)(k:Nat)(x:α):iK (l.map g) k (g x)=(iK l k x).map g:=by
 unfold iK;rw[List.map_append,List.map_cons,List.map_take,List.map_drop]
theorem zJW{s:Sd}{nm:Nat->List Nat}{n:Nat}(hn:∀i,i<n->(nfF s (ixZ s) i).2.2=nm i)(hd:∀i,i<n->∀k,k<i->¬nm i=nm k):∀f,f<=n->j8 s f=(nsB nm f).map λi=>nfF s (ixZ s) i
  |0,_=>rfl
  |f+1,hf=>by
   have ih:=zJW hn hd f zoa;unfold j8 nsB;have hb:aK (zPD (nfF s (ixZ s) f) (j8 s f)) (j8 s f).length=zDJ (λk=>lsB (nm f) (nm ((nsB nm f).getD k 0))) (nsB nm f).length:=by
    rw[ih,List.length_map];refine zBT _ λk C=>?_;have D:=zJX nm f _ (kY (d:=0) C);have e:((nsB nm f).map λi=>nfF s (ixZ s) i).getD k zA=nfF s (ixZ s) ((nsB nm f).getD k 0):=by
     rw[List.getD_eq_getElem?_getD,List.getElem?_map,List.getElem?_eq_getElem C,List.getD_eq_getElem?_getD,List.getElem?_eq_getElem C];rfl
    unfold zPD lsF;rw[e,hn f zoa,hn _ zoa,if_neg (hd f zoa _ D)];exact zXA _ _
   rw[hb,ih,zXQ]
variable {a b:Pt}
def nm0(i:Nat):List Nat:=([[115,48,46,48],[115,48,46,49],[115,48,46,50],[115,48,46,51],[98,111,116,116,111,109],[116,111,112]]:List (List Nat)).getD i []
def fB1(a b:Pt):List Fc:=[(plD a b (2,false),[[0,2,6,4]],[98,111,116,116,111,109]),(plD a b (1,false),[[0,4,5,1]],[115,48,46,48]),(plD a b (0,true),[[4,6,7,5]],[115,48,46,49]),(plD a b (1,true),[[2,3,7,6]],[115,48,46,50]),(plD a b (0,false),[[0,1,3,2]],[115,48,46,51]),(plD a b (2,true),[[1,5,7,3]],[116,111,112])]
theorem zWQ(h:a.x<b.x/\a.y<b.y/\a.z<b.z):nrF (pB0 a b,fB0 a b,[])=fB1 a b:=by
 have C:=zXL h;obtain⟨h0,h1,h2,h3,G,D⟩:=zWT h _ C;rw[yGC zod] at h0 h1 h2 h3;have H:∀i,i<6->(nfF (pB0 a b,fB0 a b,[]) (ixZ (pB0 a b,fB0 a b,[])) i).2.2=nm0 i:=λi hi=>by
  have:i=0\/i=1\/i=2\/i=3\/i=4\/i=5:=by omega
  rcases this with rfl|rfl|rfl|rfl|rfl|rfl
  · rw[h0];rfl
  · rw[h1];rfl
  · rw[h2];rfl
  · rw[h3];rfl
  · rw[G];rfl
  · rw[D];rfl
 have J:∀i,i<6->∀k,k<i->¬nm0 i=nm0 k:=by decide
 unfold nrF;rw[if_pos (zHT h)]
 show j8 _ 6=_
 rw[zJW H J 6 (Nat.le_refl _),show nsB nm0 6=[4,0,1,2,3,5] by decide];simp only[List.map_cons,List.map_nil];rw[h0,h1,h2,h3,G,D]
 rfl
variable {a b:Pt}
def fB2(a b:Pt):List Fc:=[(plD a b (2,false),[[0,2,6,4]],[122,48]),(plD a b (1,false),[[0,4,5,1]],[121,48]),(plD a b (0,true),[[4,6,7,5]],[120,49]),(plD a b (1,true),[[2,3,7,6]],[121,49]),(plD a b (0,false),[[0,1,3,2]],[120,48]),(plD a b (2,true),[[1,5,7,3]],[122,49])]
theorem yAY(h:eP a b):prP (blL a b) a.z b.z=uB1.map (cU a b)/\prF (blL a b) a.z b.z=fB1 a b:=by
 have C:=zRQ h;have D:=zY0 h;rw[(yCH h).1] at D;unfold prP prF;rw[if_pos D,if_pos D,zLI C.1 C.2.1];exact⟨zWR C,zWQ C⟩
theorem zRT(h:eP a b):blS a b=(uB1.map (cU a b),fB2 a b,[]):=by
 obtain⟨h1,h2⟩:=yAY h;unfold blS blG;rw[zZT,h1,h2];refine congrArg (λz=>(uB1.map (cU a b),z,([]:List En))) ?_;simp only[fB1,fB2,List.map_cons,List.map_nil,rnF];simp[rnN]
variable {a b:Pt}
theorem zKI:mL a b uB1 (2,false) ((fB2 a b).getD 0 zA)/\mL a b uB1 (1,false) ((fB2 a b).getD 1 zA)/\mL a b uB1 (0,true) ((fB2 a b).getD 2 zA)/\mL a b uB1 (1,true) ((fB2 a b).getD 3 zA)/\mL a b uB1 (0,false) ((fB2 a b).getD 4 zA)/\mL a b uB1 (2,true) ((fB2 a b).getD 5 zA):=
 ⟨⟨by decide,1,by decide,rfl,0,2,6,4,rfl,by decide,by decide⟩,⟨by decide,1,by decide,rfl,0,4,5,1,rfl,by decide,by decide⟩,⟨by decide,1,by decide,rfl,4,6,7,5,rfl,by decide,by decide⟩,⟨by decide,1,by decide,rfl,2,3,7,6,rfl,by decide,by decide⟩,⟨by decide,1,by decide,rfl,0,1,3,2,rfl,by decide,by decide⟩,⟨by decide,1,by decide,rfl,1,5,7,3,rfl,by decide,by decide⟩⟩
theorem t6:vO (uB1.map (cU a b),fB2 a b,[])=[[[0,2,6,4]],[[0,4,5,1]],[[4,6,7,5]],[[2,3,7,6]],[[0,1,3,2]],[[1,5,7,3]]]:=rfl
theorem zUS(h:a.x<b.x/\a.y<b.y/\a.z<b.z):gC (uB1.map (cU a b),fB2 a b,[]):=by
 have g:∀i,i<uB1.length->∀k,k<i->¬uB1.getD i u0=uB1.getD k u0:=by decide +kernel
 obtain⟨h0,h1,h2,h3,J,H⟩:=zKI (a:=a) (b:=b);refine zKO h (λi k G hi=>g i hi k G) ⟨by decide,show 6<=256 by decide⟩ (λf D=>?_) (λf D=>?_) ?_ ?_
 · have C:f<6:=D
   have:f=0\/f=1\/f=2\/f=3\/f=4\/f=5:=by omega
   rcases this with rfl|rfl|rfl|rfl|rfl|rfl
   · exact⟨_,h0⟩
   · exact⟨_,h1⟩
   · exact⟨_,h2⟩
   · exact⟨_,h3⟩
   · exact⟨_,J⟩
   · exact⟨_,H⟩
 · have C:f<6:=D
   have:f=0\/f=1\/f=2\/f=3\/f=4\/f=5:=by omega
   rcases this with rfl|rfl|rfl|rfl|rfl|rfl
   · show vfP [[0,2,6,4]];decide +kernel
   · show vfP [[0,4,5,1]];decide +kernel
   · show vfP [[4,6,7,5]];decide +kernel
   · show vfP [[2,3,7,6]];decide +kernel
   · show vfP [[0,1,3,2]];decide +kernel
   · show vfP [[1,5,7,3]];decide +kernel
 · rw[t6];decide +kernel
 · rw[t6];decide +kernel
variable {a b:Pt}
theorem zQK(h:a.x<b.x/\a.y<b.y/\a.z<b.z):fL (uB1.map (cU a b),fB2 a b,[])=[0,1,2,3,4,5,6,7]:=by
 rw[zH1 h.1 h.2.1 h.2.2,t6]
 decide +kernel
theorem yBP(h:a.x<b.x/\a.y<b.y/\a.z<b.z):ixZ (uB1.map (cU a b),fB2 a b,[])=[0,1,2,3,4,5,6,7]:=by
 have C:=zQK h;unfold ixZ;rw[zPJ C,C]
 show ixB _ 8 8=_
 decide
def fB3(a b:Pt):List Fc:=[(plD a b (0,false),[[0,1,3,2]],[120,48]),(plD a b (0,true),[[4,6,7,5]],[120,49]),(plD a b (1,false),[[0,4,5,1]],[121,48]),(plD a b (1,true),[[2,3,7,6]],[121,49]),(plD a b (2,false),[[0,2,6,4]],[122,48]),(plD a b (2,true),[[1,5,7,3]],[122,49])]
def nm1(i:Nat):List Nat:=([[122,48],[121,48],[120,49],[121,49],[120,48],[122,49]]:List (List Nat)).getD i []
theorem yBC(h:a.x<b.x/\a.y<b.y/\a.z<b.z)(ix:List Int)(hix:ix=[0,1,2,3,4,5,6,7]):∀i,i<6->nfF (uB1.map (cU a b),fB2 a b,[]) ix i=(fB2 a b).getD i zA:=by
 subst hix;obtain⟨h0,h1,h2,h3,D,C⟩:=zKI (a:=a) (b:=b);intro i hi;have:i=0\/i=1\/i=2\/i=3\/i=4\/i=5:=by omega
 rcases this with rfl|rfl|rfl|rfl|rfl|rfl
 · rw[aB h (F:=fB2 a b) (f:=0) (show 0<6 by decide) h0 _ (x:=[0,2,6,4]) I];rfl
 · rw[aB h (F:=fB2 a b) (f:=1) (show 1<6 by decide) h1 _ (x:=[0,4,5,1]) I];rfl
 · rw[aB h (F:=fB2 a b) (f:=2) (show 2<6 by decide) h2 _ (x:=[4,6,7,5]) I];rfl
 · rw[aB h (F:=fB2 a b) (f:=3) (show 3<6 by decide) h3 _ (x:=[2,3,7,6]) I];rfl
 · rw[aB h (F:=fB2 a b) (f:=4) (show 4<6 by decide) D _ (x:=[0,1,3,2]) I];rfl
 · rw[aB h (F:=fB2 a b) (f:=5) (show 5<6 by decide) C _ (x:=[1,5,7,3]) I];rfl
theorem zPW(h:eP a b):blP a b=uB1.map (cU a b)/\blF a b=fB3 a b:=by
 have D:=zRQ h;obtain⟨_,U,O⟩:=yCH h;rw[U,O,zRT h];have H:=zUS D;have J:=zQK D;have G:=yBP D;refine⟨?_,?_⟩
 · unfold nrP
   rw[if_pos H];unfold zWS;rw[J];rfl
 · have C:=yBC D _ G
   have M:∀i,i<6->(nfF (uB1.map (cU a b),fB2 a b,[]) (ixZ (uB1.map (cU a b),fB2 a b,[])) i).2.2=nm1 i:=λi hi=>by
    rw[C i hi];have:i=0\/i=1\/i=2\/i=3\/i=4\/i=5:=by omega
    rcases this with rfl|rfl|rfl|rfl|rfl|rfl<;>rfl
   unfold nrF;rw[if_pos H]
   show j8 _ 6=_
   rw[zJW M zod 6 (Nat.le_refl _),show nsB nm1 6=[4,2,1,3,0,5] by decide];simp only[List.map_cons,List.map_nil];rw[C 0 zod,C 1 zod,C 2 zod,C 3 zod,C 4 zod,C 5 zod]
   rfl
variable {a b:Pt}
theorem zLJ{P:List Pt}(h:0<yR (arZ P 0 1)):cJ P:=zCT λe=>by
 have:arZ P 0 1=0:=e;rw[this] at h;exact absurd h zod
theorem zPV(h:a.x<b.x/\a.y<b.y/\a.z<b.z){us:List B3}{F:List Fc}(hu:us.length<=512/\F.length<=256)(hF:∀f,f<F.length->∃d,mL a b us d (F.getD f zA)):okS (us.map (cU a b),F,[]):=by
 refine⟨⟨⟨?_,?_⟩,Nat.zero_le _⟩,λf C=>?_,λf C x hx=>?_⟩
 · show(us.map (cU a b)).length<=1000
   rw[List.length_map];omega
 · show F.length<=1000
   omega
 · obtain⟨d,_,c,_,_,i,j,k,l,U,_⟩:=hF f C
   show(F.getD f zA).2.1.length<=16/\∀l,l<(F.getD f zA).2.1.length->((F.getD f zA).2.1.getD l []).length<=64
   rw[U];refine⟨show 1<=16 by decide,λm O=>?_⟩;have G:m=0:=by have:m<1:=O;omega
   subst G
   show 4<=64
   decide
 · obtain⟨d,M⟩:=hF f C
   have D:=zQG h C M;obtain⟨J,ht,Z,H⟩:=zBU C M;obtain⟨v1,v2,v3,v4,rfl⟩:∃v1 v2 v3 v4,J=[v1,v2,v3,v4]:=by
    match J,Z with
    |[v1,v2,v3,v4],_=>exact⟨_,_,_,_,rfl⟩
   have e:gJ (us.map (cU a b),F,[]) f=[[v1,v2,v3,v4].map λu=>qC (F.getD f zA).1 (cU a b u)]:=zQ5 H;unfold zDO at D;rw[e] at D hx;rw[List.mem_singleton.1 hx];exact zLJ D
theorem zYY(h:eP a b):blH a b:=by
 have C:=zRQ h;refine⟨λx hx=>?_,λ_=>?_,?_⟩
 · have:x=bB a b:=List.mem_singleton.1 hx
   rw[this];exact zLJ (zY8 C.1 C.2.1)
 · rw[zLI C.1 C.2.1,mX]
   exact zPV C ⟨by decide,show 6<=256 by decide⟩ (zRB C)
 · rw[zRT h]
   obtain⟨h0,h1,h2,h3,J,H⟩:=zKI (a:=a) (b:=b);refine zPV C ⟨by decide,show 6<=256 by decide⟩ λf G=>?_;have D:f<6:=G;have:f=0\/f=1\/f=2\/f=3\/f=4\/f=5:=by omega
   rcases this with rfl|rfl|rfl|rfl|rfl|rfl
   · exact⟨_,h0⟩
   · exact⟨_,h1⟩
   · exact⟨_,h2⟩
   · exact⟨_,h3⟩
   · exact⟨_,J⟩
   · exact⟨_,H⟩
def yJM(r:Rat)(n:Int):Prop:=¬((yR r<0\/n<0)\/64<n)
noncomputable def mrLo(r:Rat)(n:Int):Rat:=if yJM r n then zHV r n else 0
noncomputable def mrHi(r:Rat)(n:Int):Rat:=if yJM r n then yJA r n else 0
theorem s7{a b:Rat}:0<=xT a b↔b<=a:=by unfold xT;grind
abbrev Tri:=T3 Pt
def pnA(s:Sd)(i:Int):Pt:=s.1.getD i.toNat zT
def inR(s:Sd)(i:Int):Prop:=0<=i/\i<s.1.length
def cnT(s:Sd)(l:List Int):Tri:=T3.mk (pnA s (l.getD 0 0)) (pnA s (l.getD 1 0)) (pnA s (l.getD 2 0))
def cnTo(s:Sd)(l:List Int):Nat->Tri
  |0=>T3.mk zT zT zT
  |i+1=>(cnTo s l i).set i (pnA s (l.getD i 0))
def fanT(s:Sd)(l:List Int)(q:Nat):Tri:=T3.mk (pnA s (l.getD 0 0)) (pnA s (l.getD (q+1) 0)) (pnA s (l.getD (q+2) 0))
def fanL(s:Sd)(l:List Int):Nat->List Tri:=qG (fanT s l)
def yJ0(s:Sd)(ls:List (List Int)):Nat->List Tri:=tO λi=>fanL s (ls.getD i []) ((ls.getD i []).length-2)
def yIB(s:Sd)(F:List Fc):Nat->List Tri:=tO λf=>yJ0 s (F.getD f zA).2.1 (F.getD f zA).2.1.length
def smT(t:Tri):Pt:=zHK (zHK t.x t.y) t.z
def scT(q:Rat)(p:Pt):Pt:=T3.mk (q*p.x) (q*p.y) (q*p.z)
def sumD(l:List Tri):Rat:=l.foldl (λa t=>a+oR t.x t.y t.z) 0
def sumC(l:List Tri):Pt:=l.foldl (λa t=>zHK a (scT (oR t.x t.y t.z) (smT t))) zT
def sumV(l:List Tri):Pt:=l.foldl (λa t=>zHK a (xH (wV t.y t.x) (wV t.z t.x))) zT
def zZP(s:Sd):Rat:=sumD (yIB s s.2.1 s.2.1.length)
def cenS(s:Sd):Pt:=sumC (yIB s s.2.1 s.2.1.length)
def arV(s:Sd)(f:Fc):Pt:=scT (1/2) (sumV (yJ0 s f.2.1 f.2.1.length))
def lqP(k:Nat)(p:Pt):Prop:=lq p.x<=k/\lq p.y<=k/\lq p.z<=k
def lqT(k:Nat)(t:Tri):Prop:=lqP k t.x/\lqP k t.y/\lqP k t.z
theorem yJC{h:Mem}{cs:List Go.Value}{a b:Pt}{k l:Nat}(r:(rpT (rpQ k)).R h cs a)(e:a=b)(hl:lqP l b):(rpT (rpQ l)).R h cs b:=by
 subst e;obtain⟨x,_,rfl,⟨G,_⟩,y,z,rfl,⟨D,_⟩,⟨C,_⟩⟩:=r;exact⟨x,_,I,⟨G,hl.1⟩,y,z,I,⟨D,hl.2.1⟩,⟨C,hl.2.2⟩⟩
def fcOk(s:Sd)(f:Fc):Prop:=(∀u v,u<f.2.1.length->v<(f.2.1.getD u []).length->inR s ((f.2.1.getD u []).getD v 0))/\(∀u,u<f.2.1.length->(f.2.1.getD u []).length<=1000)/\f.2.1.length<=1000
def fsOk(s:Sd)(F:List Fc):Prop:=(∀i,i<F.length->fcOk s (F.getD i zA))/\F.length<=1000/\(yIB s F F.length).length<=1000
noncomputable def cnS(s:Sd):Pt:=if((4:Int):Rat)*zZP s=0 then zT else scT (((1:Int):Rat)/(((4:Int):Rat)*zZP s)) (cenS s)
def cnO(s:Sd):Prop:=¬((4:Int):Rat)*zZP s=0
noncomputable def arS(s:Sd)(d:Int):Nat->Rat×Rat
  |0=>(0,0)
  |i+1=>((arS s d i).1+mrLo (xE (arV s (s.2.1.getD i zA)) (arV s (s.2.1.getD i zA))) d,(arS s d i).2+mrHi (xE (arV s (s.2.1.getD i zA)) (arV s (s.2.1.getD i zA))) d)
def arOk(s:Sd):Prop:=∀i,i<s.2.1.length->lq (xE (arV s (s.2.1.getD i zA)) (arV s (s.2.1.getD i zA)))<=200
def pI(a b c:Int):Pt:=T3.mk (a:Rat) (b:Rat) (c:Rat)
noncomputable def bkS(a b:Pt):Sd:=(blP a b,blF a b,[])
def lgS(s:Sd):Prop:=∀f,f<s.2.1.length->(s.2.1.getD f zA).2.1.length<=10000/\∀l,l<(s.2.1.getD f zA).2.1.length->((s.2.1.getD f zA).2.1.getD l []).length<=10000
def msOk(s:Sd):Prop:=(nmA s/\lgS s)/\fsOk s s.2.1/\arOk s
structure SaneF:Prop where
 h:eP (pI 0 0 0) (pI 2 2 2)->blH (pI 0 0 0) (pI 2 2 2)
 ok:msOk (bkS (pI 0 0 0) (pI 2 2 2))
 vol:zZP (bkS (pI 0 0 0) (pI 2 2 2))/((6:Int):Rat)=((8:Int):Rat)
 cen:cnS (bkS (pI 0 0 0) (pI 2 2 2))=pI 1 1 1/\cnO (bkS (pI 0 0 0) (pI 2 2 2))
 area:arS (bkS (pI 0 0 0) (pI 2 2 2)) 0 (bkS (pI 0 0 0) (pI 2 2 2)).2.1.length=(((24:Int):Rat),((24:Int):Rat))
variable {a b:Pt}
def bxS(a b:Pt):Sd:=(uB1.map (cU a b),fB3 a b,[])
theorem zRR(h:eP a b):bkS a b=bxS a b:=by
 obtain⟨h1,h2⟩:=zPW h;unfold bkS bxS;rw[h1,h2]
def cC(a b:Pt)(i:Nat):Pt:=cU a b (uB1.getD i u0)
noncomputable def whF(s:Sd)(f:Nat)(q:Pt):Int:=whZ (gJ s f) (pr (qC (s.2.1.getD f zA).1 q) 0 1) 0 1
def cnF(s:Sd)(d:Pt)(f:Nat):Rat:=xE (s.2.1.getD f zA).1.1 d
def hnF(s:Sd)(p:Pt)(f:Nat):Rat:=(s.2.1.getD f zA).1.2-xE (s.2.1.getD f zA).1.1 p
def bJ(p d:Pt)(t:Rat):Pt:=zHK p (scT t d)
def skP(s:Sd)(p d:Pt)(f:Nat):Prop:=yR (cnF s d f)*yR (hnF s p f)<=0
noncomputable def crE(s:Sd)(p d:Pt)(f:Nat):Int:=if skP s p d f then 0 else if whF s f (bJ p d (hnF s p f/cnF s d f))=1 then(if 0<cnF s d f then 1 else -1) else 0
noncomputable def crS(s:Sd)(p d:Pt):Nat->Int
  |0=>0
  |n+1=>crS s p d n+crE s p d n
theorem u5{c h:Rat}:yR c*yR h<=0↔¬((0<c/\0<h)\/(c<0/\h<0)):=by
 have r1:=yV c;have r2:=yV h;have J:=iX (q:=c);have H:=jK (q:=c);have G:=iX (q:=h);have D:=jK (q:=h);have C:yR c= -1\/yR c=0\/yR c=1:=by omega
 have c2:yR h= -1\/yR h=0\/yR h=1:=by omega
 rw[<-J,<-H,<-G,<-D]
 rcases C with e1|e1|e1<;>rcases c2 with e2|e2|e2<;>rw[e1,e2]<;>simp
theorem zTM(l:List Pt)(p:P2)(i j:Nat):gW l p i j=0\/gW l p i j=1\/gW l p i j= -1:=by
 unfold gW
 split
 · exact .inl I
 · split
   · exact .inr (.inl I)
   · exact .inr (.inr I)
theorem yDY(l:List Pt)(p:P2)(i j:Nat):whZ [l] p i j=gW l p i j:=by
 have e:∀m,m<[l].length->[l].getD m []=l:=λm C=>by
  have:m=0:=by have:m<1:=C;omega
  subst this;rfl
 unfold whZ
 rcases zTM l p i j with h|h|h
 · rw[if_pos ⟨0,Nat.zero_lt_succ _,h⟩,h]
 · rw[if_neg (λ⟨m,C,hz⟩=>by rw[e m C,h] at hz;exact absurd hz zod)]
   show(if gW l p i j=1 then _ else _)=_
   rw[if_pos h,h];rfl
 · rw[if_neg (λ⟨m,C,hz⟩=>by rw[e m C,h] at hz;exact absurd hz zod)]
   show(if gW l p i j=1 then _ else _)=_
   rw[if_neg (by rw[h];decide),h];rfl
section
variable {a b:Pt}
def sI(a b q:Pt)(v:Nat):Prop:=a.at v<q.at v/\q.at v<b.at v
def kI(a b q:Pt)(v:Nat):Prop:=a.at v<=q.at v/\q.at v<=b.at v
theorem yFT{d:Dir}{c o:Rat}(hd:d.1<3)(hc:0<c){vs:List B3}(h4:vs.length=4)(ht:zEL d vs=true):
 yFU (vs.map λu=>qC (dN d c,o) (cU a b u)) 0 1 (a.at (dI d)) (a.at (dJ d)) (b.at (dI d)) (b.at (dJ d)):=by
 have e0:∀x y:Rat,x+(y-x)*((0:Int):Rat)=x:=λx y=>by have:((0:Int):Rat)=0:=rfl;rw[this];grind
 have D:∀x y:Rat,x+(y-x)*((1:Int):Rat)=y:=λx y=>by have:((1:Int):Rat)=1:=rfl;rw[this];grind
 obtain⟨J,v1,v2,v3,rfl⟩:∃J v1 v2 v3,vs=[J,v1,v2,v3]:=by
  match vs,h4 with
  |[_,_,_,_],_=>exact⟨_,_,_,_,rfl⟩
 unfold zEL at ht;simp only[Bool.and_eq_true,Bool.or_eq_true,decide_eq_true_iff,List.map_cons,List.map_nil,List.cons.injEq,and_true] at ht;have C:∀u:B3,pr (qC (dN d c,o) (cU a b u)) 0 1=(a.at (dI d)+(b.at (dI d)-a.at (dI d))*(((pI2 d u).1:Int):Rat),a.at (dJ d)+(b.at (dJ d)-a.at (dJ d))*(((pI2 d u).2:Int):Rat)):=λu=>by
  rw[zQ8 hd hc];rfl
 have G:∀m:Nat,m<4->m=0\/m=1\/m=2\/m=3:=λm h=>by omega
 refine⟨I,?_⟩
 rcases ht.2 with((⟨q0,q1,q2,q3⟩|⟨q0,q1,q2,q3⟩)|⟨q0,q1,q2,q3⟩)|⟨q0,q1,q2,q3⟩
 · refine⟨0,by decide,λm H=>?_⟩
   rcases G m H with rfl|rfl|rfl|rfl
   · refine(C J).trans ?_;rw[q0];simp only[e0,D];rfl
   · refine(C v1).trans ?_;rw[q1];simp only[e0,D];rfl
   · refine(C v2).trans ?_;rw[q2];simp only[e0,D];rfl
   · refine(C v3).trans ?_;rw[q3];simp only[e0,D];rfl
 · refine⟨1,by decide,λm H=>?_⟩
   rcases G m H with rfl|rfl|rfl|rfl
   · refine(C J).trans ?_;rw[q0];simp only[e0,D];rfl
   · refine(C v1).trans ?_;rw[q1];simp only[e0,D];rfl
   · refine(C v2).trans ?_;rw[q2];simp only[e0,D];rfl
   · refine(C v3).trans ?_;rw[q3];simp only[e0,D];rfl
 · refine⟨2,by decide,λm H=>?_⟩
   rcases G m H with rfl|rfl|rfl|rfl
   · refine(C J).trans ?_;rw[q0];simp only[e0,D];rfl
   · refine(C v1).trans ?_;rw[q1];simp only[e0,D];rfl
   · refine(C v2).trans ?_;rw[q2];simp only[e0,D];rfl
   · refine(C v3).trans ?_;rw[q3];simp only[e0,D];rfl
 · refine⟨3,by decide,λm H=>?_⟩
   rcases G m H with rfl|rfl|rfl|rfl
   · refine(C J).trans ?_;rw[q0];simp only[e0,D];rfl
   · refine(C v1).trans ?_;rw[q1];simp only[e0,D];rfl
   · refine(C v2).trans ?_;rw[q2];simp only[e0,D];rfl
   · refine(C v3).trans ?_;rw[q3];simp only[e0,D];rfl
def kZ(f:Nat):Dir:=(f/2,f%2==1)
theorem dQ{f:Nat}(hf:f<6):mL a b uB1 (kZ f) ((fB3 a b).getD f zA)/\((fB3 a b).getD f zA).1=plD a b (kZ f):=by
 have:f=0\/f=1\/f=2\/f=3\/f=4\/f=5:=by omega
 have h1:(0:Rat)<1:=by decide
 rcases this with rfl|rfl|rfl|rfl|rfl|rfl
 · exact⟨⟨by decide,1,h1,I,0,1,3,2,I,⟨by decide,by decide,by decide,by decide⟩,by decide⟩,I⟩
 · exact⟨⟨by decide,1,h1,I,4,6,7,5,I,⟨by decide,by decide,by decide,by decide⟩,by decide⟩,I⟩
 · exact⟨⟨by decide,1,h1,I,0,4,5,1,I,⟨by decide,by decide,by decide,by decide⟩,by decide⟩,I⟩
 · exact⟨⟨by decide,1,h1,I,2,3,7,6,I,⟨by decide,by decide,by decide,by decide⟩,by decide⟩,I⟩
 · exact⟨⟨by decide,1,h1,I,0,2,6,4,I,⟨by decide,by decide,by decide,by decide⟩,by decide⟩,I⟩
 · exact⟨⟨by decide,1,h1,I,1,5,7,3,I,⟨by decide,by decide,by decide,by decide⟩,by decide⟩,I⟩
theorem yBZ{f:Nat}(hf:f<6):(kZ f).1<3:=by show f/2<3;omega
theorem yCP(h:∀i,a.at i<b.at i){f:Nat}(hf:f<6)(q:Pt):
 whF (bxS a b) f q=if(kI a b q (dI (kZ f))/\kI a b q (dJ (kZ f)))/\¬(sI a b q (dI (kZ f))/\sI a b q (dJ (kZ f))) then 0 else if sI a b q (dI (kZ f))/\sI a b q (dJ (kZ f)) then 1 else -1:=by
 obtain⟨hb,J⟩:=dQ (a:=a) (b:=b) hf;obtain⟨vs,ht,h4,Z⟩:=zBU (F:=fB3 a b) hf hb;obtain⟨v1,v2,v3,v4,rfl⟩:∃v1 v2 v3 v4,vs=[v1,v2,v3,v4]:=by
  match vs,h4 with
  |[_,_,_,_],_=>exact⟨_,_,_,_,rfl⟩
 have e:gJ (bxS a b) f=[[v1,v2,v3,v4].map λu=>qC (plD a b (kZ f)) (cU a b u)]:=by
  have:=zQ5 (s:=bxS a b) (f:=f) Z;rw[this]
  show[[qC ((fB3 a b).getD f zA).1 _,qC ((fB3 a b).getD f zA).1 _,qC ((fB3 a b).getD f zA).1 _,qC ((fB3 a b).getD f zA).1 _]]=_
  rw[J];rfl
 have hd:=yBZ hf;have h1:(0:Rat)<1:=by decide
 have M:=zKP (d:=kZ f) hd h1;have hq:pr (qC ((bxS a b).2.1.getD f zA).1 q) 0 1=(q.at (dI (kZ f)),q.at (dJ (kZ f))):=by
  show pr (qC ((fB3 a b).getD f zA).1 q) 0 1=_
  rw[J];unfold qC plD;rw[M.1,M.2.1];rfl
 have O:yFU ([v1,v2,v3,v4].map λu=>qC (plD a b (kZ f)) (cU a b u)) 0 1 (a.at (dI (kZ f))) (a.at (dJ (kZ f))) (b.at (dI (kZ f))) (b.at (dJ (kZ f))):=yFT hd h1 h4 ht;unfold whF;rw[e,hq,yDY,zXN (h _) (h _) O];have g1:bdP (a.at (dI (kZ f))) (a.at (dJ (kZ f))) (b.at (dI (kZ f))) (b.at (dJ (kZ f))) (q.at (dI (kZ f)),q.at (dJ (kZ f)))↔(kI a b q (dI (kZ f))/\kI a b q (dJ (kZ f)))/\¬(sI a b q (dI (kZ f))/\sI a b q (dJ (kZ f))):=by
  unfold bdP kI sI;constructor
  · rintro⟨⟨H,G,D,C⟩,U⟩
    exact⟨⟨⟨H,G⟩,D,C⟩,λe=>U ⟨e.1.1,e.1.2,e.2.1,e.2.2⟩⟩
  · rintro⟨⟨⟨H,G⟩,D,C⟩,U⟩
    exact⟨⟨H,G,D,C⟩,λe=>U ⟨⟨e.1,e.2.1⟩,e.2.2.1,e.2.2.2⟩⟩
 have g2:zPN (a.at (dI (kZ f))) (a.at (dJ (kZ f))) (b.at (dI (kZ f))) (b.at (dJ (kZ f))) (q.at (dI (kZ f)),q.at (dJ (kZ f)))↔sI a b q (dI (kZ f))/\sI a b q (dJ (kZ f)):=by
  unfold zPN sI;constructor
  · rintro⟨H,G,D,C⟩
    exact⟨⟨H,G⟩,D,C⟩
  · rintro⟨⟨H,G⟩,D,C⟩
    exact⟨H,G,D,C⟩
 by_cases k1:(kI a b q (dI (kZ f))/\kI a b q (dJ (kZ f)))/\¬(sI a b q (dI (kZ f))/\sI a b q (dJ (kZ f)))
 · rw[if_pos (g1.2 k1),if_pos k1]
 · rw[if_neg λe=>k1 (g1.1 e),if_neg k1]
   by_cases k2:sI a b q (dI (kZ f))/\sI a b q (dJ (kZ f))
   · rw[if_pos (g2.2 k2),if_pos k2]
   · rw[if_neg λe=>k2 (g2.1 e),if_neg k2]
end
def aC(p A B v:Pt):Prop:=if xH (wV A p) (wV B p)=zT then xH (wV B A) v=zT else oR (wV A p) (wV B p) v=0
def vK(k:Int):Pt:=T3.mk ((1:Int):Rat) (k:Rat) ((k*k:Int):Rat)
theorem zIP(a b:Pt):xH a b=zT↔xH b a=zT:=by
 unfold xH;rw[tR,tR];constructor<;>rintro⟨h1,h2,h3⟩<;>simp only at h1 h2 h3 ⊢<;>exact⟨by grind,by grind,by grind⟩
theorem zMT{p A B v:Pt}(h:aC p A B v):aC p B A v:=by
 unfold aC at *
 by_cases hc:xH (wV A p) (wV B p)=zT
 · rw[if_pos hc] at h
   rw[if_pos ((zIP _ _).1 hc)];unfold xH wV at *;rw[tR] at *;obtain⟨h1,h2,h3⟩:=h;simp only at h1 h2 h3 ⊢;exact⟨by grind,by grind,by grind⟩
 · rw[if_neg hc] at h
   rw[if_neg λe=>hc ((zIP _ _).2 e)];unfold oR xE xH wV at *;simp only at h ⊢;grind
theorem zN3{j k:Nat}(h:j≠k):((j:Int):Rat)≠((k:Int):Rat):=λe=>h (by have:=Rat.intCast_inj.1 e;omega)
theorem yJX{p A B:Pt}(hAB:A≠B){i j k:Nat}(h1:i≠j)(h2:i≠k)(h3:j≠k)(hi:aC p A B (vK i))(hj:aC p A B (vK j))(hk:aC p A B (vK k)):False:=by
 have D:=zN3 h1;have e2:=zN3 h2;have Z:=zN3 h3;have H:((1:Int):Rat)=1:=I;have G:∀n:Nat,((((n:Int)*(n:Int):Int)):Rat)=((n:Int):Rat)*((n:Int):Rat):=λn=>Rat.intCast_mul _ _;unfold aC at *
 by_cases hc:xH (wV A p) (wV B p)=zT
 · rw[if_pos hc] at hi hj
   refine hAB ?_;unfold vK at hi hj;rw[G,H] at hi hj;generalize ((i:Int):Rat)=x at *;generalize ((j:Int):Rat)=y at *;unfold xH wV at hi hj;rw[tR] at hi hj ⊢;obtain⟨a1,M,J⟩:=hi;obtain⟨b1,b2,b3⟩:=hj;simp only at a1 M J b1 b2 b3;have g:(B.x-A.x)*(x-y)=0:=by grind
   have C:B.x-A.x=0:=by
    rcases Rat.mul_eq_zero.1 g with g|g
    · exact g
    · exact absurd zoi D
   rw[C] at M J;exact⟨by grind,by grind,by grind⟩
 · rw[if_neg hc] at hi hj hk
   refine hc ?_;unfold vK at hi hj hk;rw[G,H] at hi hj hk;generalize ((i:Int):Rat)=x at *;generalize ((j:Int):Rat)=y at *;generalize ((k:Int):Rat)=z at *;have e:∀t:Rat,oR (wV A p) (wV B p) (T3.mk 1 t (t*t))=(xH (wV A p) (wV B p)).x+(xH (wV A p) (wV B p)).y*t+(xH (wV A p) (wV B p)).z*(t*t):=λt=>by
    unfold oR xE xH;simp only;grind
   rw[e] at hi hj hk;generalize xH (wV A p) (wV B p)=n at *;have C:(x-y)*(n.y+n.z*(x+y))=0:=by grind
   have U:(x-z)*(n.y+n.z*(x+z))=0:=by grind
   have m1:n.y+n.z*(x+y)=0:=by
    rcases Rat.mul_eq_zero.1 C with g|g
    · exact absurd zoi D
    · exact g
   have m2:n.y+n.z*(x+z)=0:=by
    rcases Rat.mul_eq_zero.1 U with g|g
    · exact absurd zoi e2
    · exact g
   have g3:n.z*(y-z)=0:=by grind
   have O:n.z=0:=by
    rcases Rat.mul_eq_zero.1 g3 with g|g
    · exact g
    · exact absurd zoi Z
   rw[tR];exact⟨by grind,by grind,O⟩
theorem zDI{α:Type}(q:α->Bool):∀l:List α,(l.filter q).length+(l.filter λx=>!q x).length=l.length
  |[]=>rfl
  |x::l=>by
   have ih:=zDI q l;rw[List.filter_cons,List.filter_cons]
   cases h:q x<;>simp<;>omega
theorem yED{q:Nat->Prop}{l:List Nat}(hn:l.Nodup)(hq:∀x,x∈l->q x)(h:∀i j k,i≠j->i≠k->j≠k->q i->q j->q k->False):l.length<=2:=by
 match l,hn with
 |[],_=>simp
 |[_],_=>simp
 |[_,_],_=>simp
 |a::b::c::r,hn=>
  simp only[List.nodup_cons,List.mem_cons,not_or] at hn;exact(h a b c hn.1.1 hn.1.2.1 hn.2.1.1 (hq a zoj) (hq b zoj) (hq c zoj)).elim
theorem zV1{α:Type}(bad:α->Nat->Prop):∀(E:List α) (K:List Nat),K.Nodup->2*E.length<K.length->(∀e,e∈E->∀i j k,i≠j->i≠k->j≠k->bad e i->bad e j->bad e k->False)->∃k,k∈K/\∀e,e∈E->¬bad e k
  |[],K,_,hl,_=>by
   match K,hl with
   |k::K,_=>exact⟨k,by simp,λe he=>by cases he⟩
  |e::E,K,hn,hl,h3=>by
   have hb:=zDI (λk=>decide (bad e k)) K;have h2:(K.filter λk=>decide (bad e k)).length<=2:=yED (q:=bad e) (hn.filter _) (λx hx=>by simpa using(List.mem_filter.1 hx).2) (h3 e (.head _));rw[lC] at hl;obtain⟨k,hk,hg⟩:=zV1 bad E (K.filter λk=>!decide (bad e k)) (hn.filter _) zoa λx hx=>h3 x (.tail _ hx);have hm:=List.mem_filter.1 hk;refine⟨k,hm.1,λx hx=>?_⟩
   rcases List.mem_cons.1 hx with rfl|hx
   · simpa using hm.2
   · exact hg x hx
theorem zXH{q:Nat->Prop}:∀n,q n->∃k,k<=n/\q k/\∀j,j<k->¬q j:=by
 intro n
 induction n using Nat.strongRecOn with
 |_ n ih=>
  intro hn
  by_cases h:∃j,j<n/\q j
  · obtain⟨j,hj,hq⟩:=h
    obtain⟨k,h1,h2,h3⟩:=ih j hj hq;exact⟨k,by omega,h2,h3⟩
  · exact⟨n,Nat.le_refl n,hn,λj hj hq=>h ⟨j,hj,hq⟩⟩
theorem zF8{q:Nat->Prop}(h:∃n,q n):∃k,q k/\∀j,j<k->¬q j:=by
 obtain⟨n,C⟩:=h;obtain⟨k,_,h2⟩:=zXH n C;exact⟨k,h2⟩
noncomputable def nM(q:Nat->Prop):Nat:=if h:∃n,q n then Classical.choose (zF8 h) else 0
theorem oL{q:Nat->Prop}{n:Nat}(h:q n):nM q<=n/\q (nM q)/\∀j,j<nM q->¬q j:=by
 have G:∃n,q n:=⟨n,h⟩;have C:=Classical.choose_spec (zF8 G);have e:nM q=Classical.choose (zF8 G):=dif_pos G;rw[e];exact⟨Nat.not_lt.1 λD=>C.2 n D h,C.1,C.2⟩
theorem zQ7{pl:Pl}{l:List Pt}{m:Nat}(h:m<l.length):gp (flA pl l l.length) m=qC pl (gp l m):=qF (λi=>qC pl (gp l i)) (T3.mk (0:Rat) 0 0) h
theorem zX4(pl:Pl)(l:List Pt)(p:Pt):gW (flA pl l l.length) (pr (qC pl p) 0 1) 0 1=gW l (pr p (axI pl.1) (axJ pl.1)) (axI pl.1) (axJ pl.1):=by
 have hl:(flA pl l l.length).length=l.length:=yZ _ _;have eA:∀m,m<l.length->vV (flA pl l l.length) 0 1 m=vV l (axI pl.1) (axJ pl.1) m:=λm h=>by
  unfold vV;rw[zQ7 h];rfl
 have eB:∀m,m<l.length->vT (flA pl l l.length) 0 1 m=vT l (axI pl.1) (axJ pl.1) m:=λm h=>by
  unfold vT;rw[hl,zQ7 (Nat.mod_lt _ zoa)];rfl
 have eo:∀m,m<=l.length->jV (flA pl l l.length) (pr (qC pl p) 0 1) 0 1 m=jV l (pr p (axI pl.1) (axJ pl.1)) (axI pl.1) (axJ pl.1) m:=by
  intro m
  induction m with
  |zero=>intro _;rfl
  |succ m ih=>
   intro h
   show((jJ _ _ _/\¬jV _ _ _ _ m)\/(¬jJ _ _ _/\jV _ _ _ _ m))=((jJ _ _ _/\¬jV _ _ _ _ m)\/(¬jJ _ _ _/\jV _ _ _ _ m))
   rw[ih zoa,eA m zoa,eB m zoa];rfl
 have ee:(∃m,m<(flA pl l l.length).length/\onS (vV (flA pl l l.length) 0 1 m) (vT (flA pl l l.length) 0 1 m) (pr (qC pl p) 0 1))=(∃m,m<l.length/\onS (vV l (axI pl.1) (axJ pl.1) m) (vT l (axI pl.1) (axJ pl.1) m) (pr p (axI pl.1) (axJ pl.1))):=by
  refine propext ⟨?_,?_⟩
  · rintro⟨m,h,k⟩
    rw[hl] at h;rw[eA m h,eB m h] at k;exact⟨m,h,k⟩
  · rintro⟨m,h,k⟩
    refine⟨m,by rw[hl];exact h,?_⟩;rw[eA m h,eB m h];exact k
 have eo':=eo l.length (Nat.le_refl _);rw[<-hl] at eo';unfold gW
 by_cases h:∃m,m<l.length/\onS (vV l (axI pl.1) (axJ pl.1) m) (vT l (axI pl.1) (axJ pl.1) m) (pr p (axI pl.1) (axJ pl.1))
 · rw[if_pos (ee.mpr h),if_pos h]
 · rw[if_neg λe=>h (ee.mp e),if_neg h]
   rw[hl] at eo' ⊢
   by_cases h2:jV l (pr p (axI pl.1) (axJ pl.1)) (axI pl.1) (axJ pl.1) l.length
   · rw[if_pos (eo'.mpr h2),if_pos h2]
   · rw[if_neg λe=>h2 (eo'.mp e),if_neg h2]
theorem zQ6(s:Sd)(f:Nat)(p:Pt):whF s f p=whZ (xG s f) (pr p (axI (s.2.1.getD f zA).1.1) (axJ (s.2.1.getD f zA).1.1)) (axI (s.2.1.getD f zA).1.1) (axJ (s.2.1.getD f zA).1.1):=by
 unfold whF;generalize he:(s.2.1.getD f zA).1=pl;have hl:(gJ s f).length=(xG s f).length:=(dP s f).1;have hg:∀m,m<(xG s f).length->(gJ s f).getD m []=flA pl (gl (xG s f) m) (gl (xG s f) m).length:=λm h=>by
  subst he;exact qF (λi=>flA (s.2.1.getD f zA).1 (gl (xG s f) i) (gl (xG s f) i).length) [] h
 have hi:∀m,m<(xG s f).length->gW ((gJ s f).getD m []) (pr (qC pl p) 0 1) 0 1=gW ((xG s f).getD m []) (pr p (axI pl.1) (axJ pl.1)) (axI pl.1) (axJ pl.1):=λm h=>by
  rw[hg m h];exact zX4 pl _ p
 have ht:∀m,m<=(xG s f).length->w9 (gJ s f) (pr (qC pl p) 0 1) 0 1 m=w9 (xG s f) (pr p (axI pl.1) (axJ pl.1)) (axI pl.1) (axJ pl.1) m:=by
  intro m
  induction m with
  |zero=>intro _;rfl
  |succ m ih=>
   intro h
   show(if _ then _ else _)=(if _ then _ else _)
   rw[ih zoa,hi m zoa]
 have ee:(∃m,m<(gJ s f).length/\gW ((gJ s f).getD m []) (pr (qC pl p) 0 1) 0 1=0)=(∃m,m<(xG s f).length/\gW ((xG s f).getD m []) (pr p (axI pl.1) (axJ pl.1)) (axI pl.1) (axJ pl.1)=0):=by
  refine propext ⟨?_,?_⟩
  · rintro⟨m,h,k⟩
    rw[hl] at h;rw[hi m h] at k;exact⟨m,h,k⟩
  · rintro⟨m,h,k⟩
    refine⟨m,by rw[hl];exact h,?_⟩;rw[hi m h];exact k
 unfold whZ
 by_cases h:∃m,m<(xG s f).length/\gW ((xG s f).getD m []) (pr p (axI pl.1) (axJ pl.1)) (axI pl.1) (axJ pl.1)=0
 · rw[if_pos (ee.mpr h),if_pos h]
 · rw[if_neg λe=>h (ee.mp e),if_neg h,hl]
   exact ht _ (Nat.le_refl _)
theorem yCO(L:List (List Pt))(p:P2)(i j:Nat):∀m,w9 L p i j m≠0
  |0=>by unfold w9;decide
  |m+1=>by
   have:=yCO L p i j m;unfold w9
   split<;>omega
theorem yKE{N A B q:Pt}{D:Rat}(hN:¬N.at (axK N)=0)(hA:xE N A=D)(hB:xE N B=D)(hq:xE N q=D)(hc:cr (pr A (axI N) (axJ N)) (pr B (axI N) (axJ N)) (pr q (axI N) (axJ N))=0):xH (wV B A) (wV q A)=zT:=by
 obtain⟨J,H,G⟩:=N;obtain⟨a1,a2,a3⟩:=A;obtain⟨b1,b2,b3⟩:=B;obtain⟨Z,U,O⟩:=q;unfold xE at hA hB hq;unfold xH wV;rw[tR];simp only at hA hB hq ⊢;have C:∀M x:Rat,M≠0->M*x=0->x=0:=λM x h e=>(Rat.mul_eq_zero.1 e).resolve_left h
 rcases zRV ⟨J,H,G⟩ with⟨e1,e2,e3⟩|⟨e1,e2,e3⟩|⟨e1,e2,e3⟩|⟨e1,e2,e3⟩|⟨e1,e2,e3⟩|⟨e1,e2,e3⟩<;>rw[e1,e2] at hc<;>rw[e3] at hN<;>simp only[cr,pr,T3.at] at hc hN
 · exact⟨C G _ hN zoi,C G _ hN zoi,by grind⟩
 · exact⟨C G _ hN zoi,C G _ hN zoi,by grind⟩
 · exact⟨C H _ hN zoi,by grind,C H _ hN zoi⟩
 · exact⟨C H _ hN zoi,by grind,C H _ hN zoi⟩
 · exact⟨by grind,C J _ hN zoi,C J _ hN zoi⟩
 · exact⟨by grind,C J _ hN zoi,C J _ hN zoi⟩
theorem yG4{p d A B:Pt}{t:Rat}(ht:t≠0)(h:xH (wV B A) (wV (bJ p d t) A)=zT):aC p A B d:=by
 obtain⟨M,J,H⟩:=p;obtain⟨a1,a2,a3⟩:=A;obtain⟨b1,b2,b3⟩:=B;obtain⟨Z,U,O⟩:=d;have C:∀x:Rat,t*x=0->x=0:=λx e=>(Rat.mul_eq_zero.1 e).resolve_left ht;unfold aC;unfold xH wV bJ zHK scT at h;rw[tR] at h;obtain⟨h1,h2,h3⟩:=h;simp only at h1 h2 h3
 split
 · rename_i hc
   unfold xH wV at *;rw[tR] at *;obtain⟨G,c2,D⟩:=hc;simp only at G c2 D ⊢;exact⟨C _ zoi,C _ zoi,C _ zoi⟩
 · refine C _ ?_
   unfold oR xE xH wV;simp only;grind
def dW(s:Sd)(p v:Pt):Prop:=∀f,f<s.2.1.length->∀l,l<(xG s f).length->∀k,k<(gl (xG s f) l).length->gp (gl (xG s f) l) k≠gp (gl (xG s f) l) ((k+1)%(gl (xG s f) l).length)->¬aC p (gp (gl (xG s f) l) k) (gp (gl (xG s f) l) ((k+1)%(gl (xG s f) l).length)) v
def yC9(s:Sd):Prop:=∀f,f<s.2.1.length->¬(s.2.1.getD f zA).1.1=zT/\∀l,l<(xG s f).length->∀k,k<(gl (xG s f) l).length->xE (s.2.1.getD f zA).1.1 (gp (gl (xG s f) l) k)=(s.2.1.getD f zA).1.2/\gp (gl (xG s f) l) k≠gp (gl (xG s f) l) ((k+1)%(gl (xG s f) l).length)
theorem yB6(N p d:Pt)(t:Rat):xE N (bJ p d t)=xE N p+t*xE N d:=by
 unfold xE bJ zHK scT;simp only;grind
theorem zZO{L:List (List Pt)}{p:P2}{i j:Nat}(h:whZ L p i j=0):∃m,m<L.length/\∃k,k<(gl L m).length/\onS (vV (gl L m) i j k) (vT (gl L m) i j k) p:=by
 unfold whZ at h
 split at h
 · rename_i h1
   obtain⟨m,D,hz⟩:=h1;unfold gW at hz
   split at hz
   · rename_i h2
     obtain⟨k,G,C⟩:=h2;exact⟨m,D,k,G,C⟩
   · split at hz<;>exact absurd hz zod
 · exact absurd h (yCO _ _ _ _ _)
theorem zO3{s:Sd}{p d:Pt}{f:Nat}(hs:yC9 s)(hf:f<s.2.1.length)(hc:dW s p d)(hk:¬skP s p d f):whF s f (bJ p d (hnF s p f/cnF s d f))≠0:=by
 intro h0;rw[zQ6] at h0;obtain⟨l,H,k,D,O⟩:=zZO h0;obtain⟨hz,C⟩:=hs f hf;have U:cnF s d f≠0:=λe=>hk (by unfold skP;rw[u5,e];grind);have J:hnF s p f/cnF s d f≠0:=λe=>hk (by
  have:hnF s p f=0:=by
   have h1:hnF s p f=hnF s p f/cnF s d f*cnF s d f:=by generalize cnF s d f=c at *;grind
   rw[e] at h1;grind
  unfold skP;rw[u5,this];grind)
 have M:xE (s.2.1.getD f zA).1.1 (bJ p d (hnF s p f/cnF s d f))=(s.2.1.getD f zA).1.2:=by
  rw[yB6];have h1:hnF s p f/cnF s d f*cnF s d f=hnF s p f:=by generalize cnF s d f=c at *;grind
  have h2:xE (s.2.1.getD f zA).1.1 d=cnF s d f:=I;rw[h2,h1];unfold hnF;grind
 obtain⟨hA,G⟩:=C l H k D;have hB:=(C l H ((k+1)%(gl (xG s f) l).length) (Nat.mod_lt _ zoa)).1;have Z:¬(s.2.1.getD f zA).1.1.at (axK (s.2.1.getD f zA).1.1)=0:=λe=>hz ((zRU _).1 e);exact hc f hf l H k D G (yG4 J (yKE Z hA hB M O.2.2))
abbrev PIr:=Int×Int
def mmI(a b:Int):PIr:=(min a b,max a b)
def ptI(P:List Pt)(i:Int):Pt:=gp P i.toNat
noncomputable def sxE(P:List Pt)(x:List Int)(S:List PIr):Nat->List PIr
  |0=>S
  |k+1=>if mmI (x.getD k 0) (x.getD ((k+1)%x.length) 0)∈sxE P x S k\/ptI P (x.getD k 0)=ptI P (x.getD ((k+1)%x.length) 0) then sxE P x S k else sxE P x S k++[mmI (x.getD k 0) (x.getD ((k+1)%x.length) 0)]
noncomputable def slE(P:List Pt)(L:List (List Int))(S:List PIr):Nat->List PIr
  |0=>S
  |l+1=>sxE P (L.getD l []) (slE P L S l) (L.getD l []).length
noncomputable def sfE(s:Sd):Nat->List PIr
  |0=>[]
  |f+1=>slE s.1 (s.2.1.getD f zA).2.1 (sfE s f) (s.2.1.getD f zA).2.1.length
def ptP(P:List Pt)(e:PIr):Pt×Pt:=(ptI P e.1,ptI P e.2)
def isE(P:List Pt)(x:List Int)(n:Nat)(e:PIr):Prop:=∃k,k<n/\e=mmI (x.getD k 0) (x.getD ((k+1)%x.length) 0)/\ptI P (x.getD k 0)≠ptI P (x.getD ((k+1)%x.length) 0)
theorem zUM(P:List Pt)(x:List Int)(S:List PIr)(e:PIr):∀n,e∈sxE P x S n↔e∈S\/isE P x n e
  |0=>⟨.inl,λh=>h.elim id λ⟨_,h,_⟩=>absurd h (Nat.not_lt_zero _)⟩
  |n+1=>by
   have ih:=zUM P x S e n;have hs:isE P x (n+1) e↔isE P x n e\/(e=mmI (x.getD n 0) (x.getD ((n+1)%x.length) 0)/\ptI P (x.getD n 0)≠ptI P (x.getD ((n+1)%x.length) 0)):=by
    constructor
    · rintro⟨k,C,h⟩
      rcases Nat.lt_succ_iff_lt_or_eq.1 C with h1|rfl
      · exact .inl ⟨k,h1,h⟩
      · exact .inr h
    · rintro(⟨k,C,h⟩|h)
      · exact⟨k,by omega,h⟩
      · exact⟨n,by omega,h⟩
   unfold sxE
   by_cases hc:mmI (x.getD n 0) (x.getD ((n+1)%x.length) 0)∈sxE P x S n\/ptI P (x.getD n 0)=ptI P (x.getD ((n+1)%x.length) 0)
   · rw[if_pos hc,ih,hs]
     constructor
     · rintro(h|h)
       · exact .inl h
       · exact .inr (.inl h)
     · rintro(h|h|⟨h1,h2⟩)
       · exact .inl h
       · exact .inr h
       · rcases hc with hc|hc
         · rw[<-h1] at hc
           exact ih.1 hc
         · exact absurd hc h2
   · rw[if_neg hc,List.mem_append,ih,hs,List.mem_singleton]
     constructor
     · rintro((h|h)|h)
       · exact .inl h
       · exact .inr (.inl h)
       · exact .inr (.inr ⟨h,λe=>hc (.inr e)⟩)
     · rintro(h|h|⟨h1,_⟩)
       · exact .inl (.inl h)
       · exact .inl (.inr h)
       · exact .inr h1
theorem zUV(P:List Pt)(L:List (List Int))(S:List PIr)(e:PIr):∀n,e∈slE P L S n↔e∈S\/∃l,l<n/\isE P (L.getD l []) (L.getD l []).length e
  |0=>⟨.inl,λh=>h.elim id λ⟨_,h,_⟩=>absurd h (Nat.not_lt_zero _)⟩
  |n+1=>by
   unfold slE;rw[zUM,zUV P L S e n];constructor
   · rintro((h|⟨l,hl,h⟩)|h)
     · exact .inl h
     · exact .inr ⟨l,by omega,h⟩
     · exact .inr ⟨n,by omega,h⟩
   · rintro(h|⟨l,hl,h⟩)
     · exact .inl (.inl h)
     · rcases Nat.lt_succ_iff_lt_or_eq.1 hl with h1|rfl
       · exact .inl (.inr ⟨l,h1,h⟩)
       · exact .inr h
theorem zJC(s:Sd)(e:PIr):∀n,e∈sfE s n↔∃f,f<n/\∃l,l<(s.2.1.getD f zA).2.1.length/\isE s.1 ((s.2.1.getD f zA).2.1.getD l []) ((s.2.1.getD f zA).2.1.getD l []).length e
  |0=>⟨λh=>absurd h List.not_mem_nil,λ⟨_,h,_⟩=>absurd h (Nat.not_lt_zero _)⟩
  |n+1=>by
   unfold sfE;rw[zUV,zJC s e n];constructor
   · rintro(⟨f,hf,h⟩|h)
     · exact⟨f,by omega,h⟩
     · exact⟨n,by omega,h⟩
   · rintro⟨f,hf,h⟩
     rcases Nat.lt_succ_iff_lt_or_eq.1 hf with h1|rfl
     · exact .inl ⟨f,h1,h⟩
     · exact .inr h
theorem zPS{s:Sd}{f:Nat}(hf:f<s.2.1.length)(hn:nmP s f):(xG s f).length=(s.2.1.getD f zA).2.1.length/\∀l,l<(s.2.1.getD f zA).2.1.length->(gl (xG s f) l).length=((s.2.1.getD f zA).2.1.getD l []).length/\∀k,k<((s.2.1.getD f zA).2.1.getD l []).length->gp (gl (xG s f) l) k=ptI s.1 (((s.2.1.getD f zA).2.1.getD l []).getD k 0):=by
 have e:xG s f=zGP s f (s.2.1.getD f zA).2.1.length:=by
  unfold xG;rw[if_pos ⟨⟨by omega,by omega⟩,by rw[Int.toNat_natCast];exact hn⟩,Int.toNat_natCast]
 rw[e];refine⟨yZ _ _,λl C=>?_⟩;have G:gl (zGP s f (s.2.1.getD f zA).2.1.length) l=zE5 s.1 ((s.2.1.getD f zA).2.1.getD l []) ((s.2.1.getD f zA).2.1.getD l []).length:=qF _ _ C;rw[G];exact⟨yZ _ _,λk D=>qF (λk=>gp s.1 (((s.2.1.getD f zA).2.1.getD l []).getD k 0).toNat) _ D⟩
theorem zXW{P:List Pt}{p v:Pt}(a b:Int):aC p (ptI P (mmI a b).1) (ptI P (mmI a b).2) v↔aC p (ptI P a) (ptI P b) v:=by
 unfold mmI
 by_cases h:a<=b
 · show aC p (ptI P (min a b)) (ptI P (max a b)) v↔_
   rw[Int.min_eq_left h,Int.max_eq_right h]
 · show aC p (ptI P (min a b)) (ptI P (max a b)) v↔_
   rw[Int.min_eq_right zoa,Int.max_eq_left zoa];exact⟨zMT,zMT⟩
theorem zRK{s:Sd}(hn:nmA s)(p v:Pt):dW s p v↔∀e,e∈sfE s s.2.1.length->¬aC p (ptI s.1 e.1) (ptI s.1 e.2) v:=by
 constructor
 · intro h e O
   obtain⟨f,D,l,M,k,G,rfl,C⟩:=(zJC s e _).1 O;obtain⟨U,c2⟩:=zPS D (hn f D);obtain⟨J,H⟩:=c2 l M;rw[zXW];have:=h f D l zoa k zoa;rw[J,H k G,H _ (Nat.mod_lt _ zoa)] at this;exact this C
 · intro h f D l M k G C
   obtain⟨U,c2⟩:=zPS D (hn f D);obtain⟨J,H⟩:=c2 l zoa;rw[J] at G C ⊢;rw[H k G,H _ (Nat.mod_lt _ zoa)] at C ⊢;rw[<-zXW];exact h _ ((zJC s _ _).2 ⟨f,D,l,by omega,k,G,I,C⟩)
theorem yI5{s:Sd}{e:PIr}{n:Nat}(he:e∈sfE s n):ptI s.1 e.1≠ptI s.1 e.2:=by
 obtain⟨f,H,l,D,k,G,rfl,C⟩:=(zJC s e n).1 he;generalize ((s.2.1.getD f zA).2.1.getD l []).getD k 0=a at *;generalize ((s.2.1.getD f zA).2.1.getD l []).getD ((k+1)%((s.2.1.getD f zA).2.1.getD l []).length) 0=b at *;unfold mmI
 by_cases h:a<=b
 · show ptI s.1 (min a b)≠ptI s.1 (max a b)
   rw[Int.min_eq_left h,Int.max_eq_right h];exact C
 · show ptI s.1 (min a b)≠ptI s.1 (max a b)
   rw[Int.min_eq_right zoa,Int.max_eq_left zoa];exact C.symm
noncomputable def dirN(s:Sd)(p:Pt):Nat:=nM λk=>dW s p (vK k)
theorem iO{s:Sd}(hn:nmA s)(p:Pt):dirN s p<=2*(sfE s s.2.1.length).length/\dW s p (vK (dirN s p))/\∀j:Nat,j<dirN s p->¬dW s p (vK j):=by
 obtain⟨k,D,G⟩:=zV1 (λ(e:PIr) (k:Nat)=>aC p (ptI s.1 e.1) (ptI s.1 e.2) (vK k)) (sfE s s.2.1.length) (List.range (2*(sfE s s.2.1.length).length+1)) List.nodup_range (by rw[List.length_range];omega) λe H i j k h1 h2 h3 a b c=>yJX (yI5 H) h1 h2 h3 a b c;have C:dW s p (vK k):=(zRK hn p _).2 G;obtain⟨h1,h2,h3⟩:=oL (q:=λk:Nat=>dW s p (vK k)) C;have:=List.mem_range.1 D;exact⟨by unfold dirN;omega,h2,h3⟩
theorem zGH{α:Type}{g:Nat->List α}:∀{n},tO g n=[]->∀i,i<n->g i=[]
  |0,_,i,h=>absurd h (Nat.not_lt_zero i)
  |n+1,e,i,h=>by
   have e':tO g n++g n=[]:=e;rw[List.append_eq_nil_iff] at e'
   rcases Nat.lt_succ_iff_lt_or_eq.1 h with h1|rfl
   · exact zGH e'.1 i h1
   · exact e'.2
theorem zB3{s:Sd}(h:gC s):szZ s=[]/\zKV s s.1.length=[]/\plZ s=[]/\neZ s=[]/\clZ (vO s)=[]:=by
 unfold gC zYP at h
 by_cases h1:0<(szZ s).length
 · rw[if_pos h1] at h;omega
 · rw[if_neg h1] at h
   by_cases h2:0<(zKV s s.1.length).length
   · rw[if_pos h2] at h;omega
   · rw[if_neg h2] at h
     by_cases h3:0<(plZ s).length
     · rw[if_pos h3] at h;omega
     · rw[if_neg h3] at h
       by_cases h4:0<(neZ s).length
       · rw[if_pos h4] at h;omega
       · rw[if_neg h4] at h
         exact⟨List.eq_nil_of_length_eq_zero zoa,List.eq_nil_of_length_eq_zero zoa,List.eq_nil_of_length_eq_zero zoa,List.eq_nil_of_length_eq_zero zoa,List.eq_nil_of_length_eq_zero h⟩
theorem zEQ{s:Sd}(h:gC s){f:Nat}(hf:f<s.2.1.length):vfP (s.2.1.getD f zA).2.1/\nmP s f:=by
 have hz:=(zB3 h).1;unfold szZ at hz
 by_cases hb:zNF s
 · rw[if_pos hb] at hz;simp at hz
 · rw[if_neg hb] at hz
   have:=(dA (p:=szP s) _).1 hz f hf;unfold szP at this;exact⟨Classical.not_not.1 λe=>this (.inl e),Classical.not_not.1 λe=>this (.inr e)⟩
theorem gL{s:Sd}(h:gC s):nmA s:=λf hf=>(zEQ h hf).2
theorem zZ7{s:Sd}(h:gC s){i k:Nat}(hi:i<s.1.length)(hk:k<s.1.length)(hne:i≠k):gp s.1 i≠gp s.1 k:=by
 have C:=(dA (p:=twP s) _).1 (zB3 h).2.1;intro e
 rcases Nat.lt_or_gt_of_ne hne with h1|h1
 · exact C k hk ⟨i,h1,e.symm⟩
 · exact C i hi ⟨k,h1,e⟩
theorem zER{s:Sd}(h:gC s):yC9 s:=by
 have G:=(zB3 h).2.2.1;unfold plZ at G
 by_cases hz:0<(zRX s s.2.1.length).length
 · rw[if_pos hz] at G;rw[G] at hz;exact absurd hz zod
 · rw[if_neg hz] at G
   have O:=(dA (p:=zrP s) _).1 (List.eq_nil_of_length_eq_zero (Nat.le_zero.1 (Nat.not_lt.1 hz)));intro f M;obtain⟨hv,U⟩:=zEQ h M;obtain⟨c1,c2⟩:=zPS M U;refine⟨O f M,λl hl k J=>⟨?_,?_⟩⟩
   · have o1:=zGH (zGH G f M) l hl
     have o2:=(dA (p:=ofP s f l) _).1 o1 k J;have Z:=Classical.not_not.1 o2;unfold sdZ hgt at Z;have:=uP.1 Z;grind
   · have C:l<(s.2.1.getD f zA).2.1.length:=by omega
     obtain⟨c3,c4⟩:=c2 l C;rw[c3] at J ⊢;have D:=hv.2 l C;have H:(k+1)%((s.2.1.getD f zA).2.1.getD l []).length<((s.2.1.getD f zA).2.1.getD l []).length:=Nat.mod_lt _ zoa;rw[c4 k J,c4 _ H];have n1:=U l C k J;have n2:=U l C _ H;have aa:((s.2.1.getD f zA).2.1.getD l []).getD k 0≠((s.2.1.getD f zA).2.1.getD l []).getD ((k+1)%((s.2.1.getD f zA).2.1.getD l []).length) 0:=by
      generalize ((s.2.1.getD f zA).2.1.getD l [])=x at *;have h3:=D.1.1
      rcases Nat.lt_or_ge (k+1) x.length with h4|h4
      · rw[Nat.mod_eq_of_lt h4]
        exactλe=>(D.2 (k+1) h4).2 k zoa e.symm
      · have e0:k+1=x.length:=by omega
        rw[e0,Nat.mod_self];exact(D.2 k J).2 0 zoa
     exact zZ7 h zoa zoa zoa
variable {a b p d:Pt}
theorem yHU{f:Nat}(hf:f<6):cnF (bxS a b) d f=if f%2=1 then d.at (f/2) else-d.at (f/2):=by
 unfold cnF;have e:((bxS a b).2.1.getD f zA).1.1=dN (kZ f) 1:=congrArg Prod.fst (dQ (a:=a) (b:=b) hf).2;rw[e];have:f=0\/f=1\/f=2\/f=3\/f=4\/f=5:=by omega
 rcases this with rfl|rfl|rfl|rfl|rfl|rfl<;>(simp[kZ,dN,T3.set,xE,T3.at];try grind)
theorem yG3{f:Nat}(hf:f<6):hnF (bxS a b) p f=if f%2=1 then b.at (f/2)-p.at (f/2) else p.at (f/2)-a.at (f/2):=by
 unfold hnF;have e:((bxS a b).2.1.getD f zA).1=plD a b (kZ f):=(dQ (a:=a) (b:=b) hf).2;rw[e];have:f=0\/f=1\/f=2\/f=3\/f=4\/f=5:=by omega
 rcases this with rfl|rfl|rfl|rfl|rfl|rfl<;>(simp[kZ,plD,dN,T3.set,xE,T3.at];try grind)
theorem yDZ(h:∀i,a.at i<b.at i){u s:Nat}(hu:u<3)(hs:s<2)(q:Pt):
 (whF (bxS a b) (2*u+s) q=0↔(kI a b q ((u+1)%3)/\kI a b q ((u+2)%3))/\¬(sI a b q ((u+1)%3)/\sI a b q ((u+2)%3)))/\(whF (bxS a b) (2*u+s) q=1↔sI a b q ((u+1)%3)/\sI a b q ((u+2)%3)):=by
 have G:∀v,sI a b q v->kI a b q v:=λv e=>⟨Rat.le_of_lt e.1,Rat.le_of_lt e.2⟩;have C:∀v w,whF (bxS a b) (2*u+s) q=(if(kI a b q v/\kI a b q w)/\¬(sI a b q v/\sI a b q w) then 0 else if sI a b q v/\sI a b q w then 1 else -1)->
  (whF (bxS a b) (2*u+s) q=0↔(kI a b q v/\kI a b q w)/\¬(sI a b q v/\sI a b q w))/\(whF (bxS a b) (2*u+s) q=1↔sI a b q v/\sI a b q w):=λv w e=>by
  rw[e]
  by_cases h1:(kI a b q v/\kI a b q w)/\¬(sI a b q v/\sI a b q w)
  · rw[if_pos h1]
    exact⟨⟨λ_=>h1,λ_=>I⟩,λe=>absurd e zod,λe=>absurd e h1.2⟩
  · rw[if_neg h1]
    by_cases h2:sI a b q v/\sI a b q w
    · rw[if_pos h2]
      exact⟨⟨λe=>absurd e zod,λe=>absurd e h1⟩,λ_=>h2,λ_=>I⟩
    · rw[if_neg h2]
      exact⟨⟨λe=>absurd e zod,λe=>absurd e h1⟩,λe=>absurd e zod,λe=>absurd e h2⟩
 have e:=yCP h (f:=2*u+s) zoa q;have D:∀v w,((kI a b q v/\kI a b q w)/\¬(sI a b q v/\sI a b q w))=((kI a b q w/\kI a b q v)/\¬(sI a b q w/\sI a b q v))/\(sI a b q v/\sI a b q w)=(sI a b q w/\sI a b q v):=λv w=>by
  constructor<;>(apply propext;constructor<;>grind)
 have:(u=0\/u=1\/u=2)/\(s=0\/s=1):=by omega
 rcases this with⟨rfl|rfl|rfl,rfl|rfl⟩
 · have k:=C 2 1 e;rw[(D 2 1).1,(D 2 1).2] at k;exact k
 · exact C 1 2 e
 · have k:=C 0 2 e;rw[(D 0 2).1,(D 0 2).2] at k;exact k
 · exact C 2 0 e
 · have k:=C 1 0 e;rw[(D 1 0).1,(D 1 0).2] at k;exact k
 · exact C 0 1 e
theorem j0(t:Rat):∀u,(bJ p d t).at u=p.at u+t*d.at u
  |0=>rfl
  |1=>rfl
  |_+2=>rfl
theorem rZ{x l t:Rat}(hx:0<x):l*x<t*x↔l<t:=by
 constructor
 · intro h
   refine Rat.not_le.1 λe=>?_;have:0<=(l-t)*x:=Rat.mul_nonneg zoi (Rat.le_of_lt hx);grind
 · intro h
   have:=kG (show 0<t-l by grind) hx;grind
theorem oF{x l t:Rat}(hx:0<x):l*x<=t*x↔l<=t:=by
 rw[<-Rat.not_lt,<-Rat.not_lt,rZ hx]
structure Ax(a b p d:Pt)(M:Rat)(u:Nat)(l h:Rat):Prop where
 lt:l<h
 z:d.at u=0->l= -M/\h=M
 n:d.at u≠0->(-M<l/\l<M)/\-M<h/\h<M
 s:∀t,-M<t->t<M->(sI a b (bJ p d t) u↔l<t/\t<h)
 k:∀t,-M<t->t<M->(kI a b (bJ p d t) u↔l<=t/\t<=h)
 pos:0<d.at u->l*d.at u=a.at u-p.at u/\h*d.at u=b.at u-p.at u
 neg:d.at u<0->l*d.at u=b.at u-p.at u/\h*d.at u=a.at u-p.at u
theorem yH9{M:Rat}{u:Nat}(hab:a.at u<b.at u)(hd:0<d.at u){l h:Rat}(hl:l*d.at u=a.at u-p.at u)(hh:h*d.at u=b.at u-p.at u)(hM:(-M<l/\l<M)/\-M<h/\h<M):Ax a b p d M u l h:=by
 refine⟨?_,λe=>by grind,λ_=>hM,λt _ _=>?_,λt _ _=>?_,λ_=>⟨hl,hh⟩,λe=>by grind⟩
 · rw[<-rZ hd];grind
 · unfold sI;rw[j0,<-rZ (l:=l) hd,<-rZ (l:=t) hd];constructor<;>intro h<;>constructor<;>grind
 · unfold kI;rw[j0,<-oF (l:=l) hd,<-oF (l:=t) hd];constructor<;>intro h<;>constructor<;>grind
theorem yIA{M:Rat}{u:Nat}(hab:a.at u<b.at u)(hd:d.at u<0){l h:Rat}(hl:l*d.at u=b.at u-p.at u)(hh:h*d.at u=a.at u-p.at u)(hM:(-M<l/\l<M)/\-M<h/\h<M):Ax a b p d M u l h:=by
 have C:0< -d.at u:=by grind
 refine⟨?_,λe=>by grind,λ_=>hM,λt _ _=>?_,λt _ _=>?_,λe=>by grind,λ_=>⟨hl,hh⟩⟩
 · rw[<-rZ C];grind
 · unfold sI;rw[j0,<-rZ (l:=l) C,<-rZ (l:=t) C];constructor<;>intro h<;>constructor<;>grind
 · unfold kI;rw[j0,<-oF (l:=l) C,<-oF (l:=t) C];constructor<;>intro h<;>constructor<;>grind
theorem zY9{M:Rat}{u:Nat}(hM:0<M)(hd:d.at u=0)(hs:sI a b p u):Ax a b p d M u (-M) M:=by
 have e:∀t,(bJ p d t).at u=p.at u:=λt=>by rw[j0,hd];grind
 refine⟨by grind,λ_=>⟨I,I⟩,λh=>absurd hd h,λt h1 h2=>?_,λt h1 h2=>?_,λh=>by grind,λh=>by grind⟩
 · unfold sI at *;rw[e];exact⟨λ_=>⟨h1,h2⟩,λ_=>hs⟩
 · unfold kI;unfold sI at hs;rw[e];exact⟨λ_=>⟨Rat.le_of_lt h1,Rat.le_of_lt h2⟩,λ_=>⟨Rat.le_of_lt hs.1,Rat.le_of_lt hs.2⟩⟩
theorem yKA{s:Sd}{f:Nat}{t:Rat}(hc:cnF s d f≠0)(ht:hnF s p f=t*cnF s d f):(skP s p d f↔¬0<t)/\hnF s p f/cnF s d f=t:=by
 refine⟨?_,?_⟩
 · unfold skP
   rw[u5,ht];generalize cnF s d f=c at *;refine not_congr ⟨?_,λh0=>?_⟩
   · rintro(⟨h1,h2⟩|⟨h1,h2⟩)
     · refine Rat.not_le.1 λe=>?_
       have:0<=(-t)*c:=Rat.mul_nonneg zoi (Rat.le_of_lt h1);grind
     · refine Rat.not_le.1 λe=>?_
       have:0<=(-t)*(-c):=Rat.mul_nonneg zoi zoi;grind
   · by_cases h1:0<c
     · exact .inl ⟨h1,kG h0 h1⟩
     · have:=kG h0 (show 0< -c by grind)
       exact .inr ⟨by grind,by grind⟩
 · rw[ht]
   generalize cnF s d f=c at *;grind
theorem zBN(hab:∀i,a.at i<b.at i){M:Rat}{u s:Nat}(hu:u<3)(hs:s<2){t lv hv lw hw:Rat}(V:Ax a b p d M ((u+1)%3) lv hv)(W:Ax a b p d M ((u+2)%3) lw hw)(h1:-M<t)(h2:t<M)
    (hc:cnF (bxS a b) d (2*u+s)≠0)(ht:hnF (bxS a b) p (2*u+s)=t*cnF (bxS a b) d (2*u+s)):
    crE (bxS a b) p d (2*u+s)=(if 0<cnF (bxS a b) d (2*u+s) then 1 else -1)*cR (exI t lv hv lw hw)/\((¬skP (bxS a b) p d (2*u+s)->whF (bxS a b) (2*u+s) (bJ p d (hnF (bxS a b) p (2*u+s)/cnF (bxS a b) d (2*u+s)))≠0)->iB t lv hv lw hw):=by
 obtain⟨D,G⟩:=yKA hc ht;obtain⟨w0,C⟩:=yDZ hab hu hs (bJ p d t);rw[V.s t h1 h2,W.s t h1 h2] at w0 C;rw[V.k t h1 h2,W.k t h1 h2] at w0;refine⟨?_,?_⟩
 · unfold crE
   rw[G]
   by_cases h0:0<t
   · rw[if_neg λe=>D.1 e h0]
     by_cases hw1:(lv<t/\t<hv)/\lw<t/\t<hw
     · rw[if_pos (C.2 hw1),aX (show exI t lv hv lw hw from⟨h0,hw1⟩),Int.mul_one]
     · rw[if_neg λe=>hw1 (C.1 e),kB (show ¬exI t lv hv lw hw fromλe=>hw1 e.2),Int.mul_zero]
   · rw[if_pos (D.2 h0),kB (show ¬exI t lv hv lw hw fromλe=>h0 e.1),Int.mul_zero]
 · intro H h0 J c2
   rw[G] at H;exact Classical.not_not.1 λe=>H (λk=>D.1 k h0) (w0.2 ⟨⟨J,c2⟩,e⟩)
theorem yHH{M t lv hv lw hw:Rat}{v w:Nat}(V:Ax a b p d M v lv hv):¬exI M lv hv lw hw:=λe=>by
 by_cases h:d.at v=0
 · have:=(V.z h).2;unfold exI at e;grind
 · have:=(V.n h).2.2;unfold exI at e;grind
theorem zGZ(hab:∀i,a.at i<b.at i){M:Rat}(hM:0<M){u:Nat}(hu:u<3){l h lv hv lw hw:Rat}(U:Ax a b p d M u l h)(V:Ax a b p d M ((u+1)%3) lv hv)(W:Ax a b p d M ((u+2)%3) lw hw)
    (hz:d.at u=0->d.at ((u+1)%3)≠0\/d.at ((u+2)%3)≠0)(hb:∀f,f<6->¬skP (bxS a b) p d f->whF (bxS a b) f (bJ p d (hnF (bxS a b) p f/cnF (bxS a b) d f))≠0):
    crE (bxS a b) p d (2*u)+crE (bxS a b) p d (2*u+1)=cR (exI h lv hv lw hw)-cR (enI l lv hv lw hw)/\iB h lv hv lw hw/\iB l lv hv lw hw:=by
 have G:cnF (bxS a b) d (2*u+0)= -d.at u:=by rw[yHU zoa,if_neg zoa,show(2*u+0)/2=u by omega]
 have D:cnF (bxS a b) d (2*u+1)=d.at u:=by rw[yHU zoa,if_pos zoa,show(2*u+1)/2=u by omega]
 have n0:hnF (bxS a b) p (2*u+0)=p.at u-a.at u:=by rw[yG3 zoa,if_neg zoa,show(2*u+0)/2=u by omega]
 have n1:hnF (bxS a b) p (2*u+1)=b.at u-p.at u:=by rw[yG3 zoa,if_pos zoa,show(2*u+1)/2=u by omega]
 by_cases hd:d.at u=0
 · obtain⟨el,eh⟩:=U.z hd
   have O:crE (bxS a b) p d (2*u+0)=0:=by
    unfold crE;refine if_pos ?_;unfold skP;rw[u5,G,hd];grind
   have z1:crE (bxS a b) p d (2*u+1)=0:=by
    unfold crE;refine if_pos ?_;unfold skP;rw[u5,D,hd];grind
   have x1:¬exI h lv hv lw hw:=by rw[eh];exact yHH (t:=M) (w:=0) V
   have x2:¬enI l lv hv lw hw:=λe=>by unfold enI at e;grind
   refine⟨?_,?_,λe=>by grind⟩
   · rw[Nat.add_zero] at O
     rw[O,z1,kB x1,kB x2];rfl
   · intro _ e2 e3
     rcases hz hd with k|k
     · have:=(V.n k).2.2;grind
     · have:=(W.n k).2.2;grind
 · obtain⟨⟨m1,m2⟩,m3,m4⟩:=U.n hd
   by_cases hp:0<d.at u
   · obtain⟨q1,Z⟩:=U.pos hp
     obtain⟨r1,H⟩:=zBN hab hu (s:=1) zod V W m3 m4 (by rw[D];exact hd) (by rw[n1,D,Z]);obtain⟨C,J⟩:=zBN hab hu (s:=0) zod V W m1 m2 (by rw[G];grind) (by rw[n0,G];grind);refine⟨?_,H (hb _ zoa),J (hb _ zoa)⟩;rw[D,if_pos hp] at r1;rw[G,if_neg zoi] at C;rw[Nat.add_zero] at C;rw[C,r1]
     show -1*cR (exI l lv hv lw hw)+_=_-cR (exI l lv hv lw hw)
     omega
   · obtain⟨q1,Z⟩:=U.neg zoi
     obtain⟨r1,H⟩:=zBN hab hu (s:=1) zod V W m1 m2 (by rw[D];exact hd) (by rw[n1,D,q1]);obtain⟨C,J⟩:=zBN hab hu (s:=0) zod V W m3 m4 (by rw[G];grind) (by rw[n0,G];grind);refine⟨?_,J (hb _ zoa),H (hb _ zoa)⟩;rw[D,if_neg hp] at r1;rw[G,if_pos zoi] at C;rw[Nat.add_zero] at C;rw[C,r1]
     show _+-1*cR (exI l lv hv lw hw)=_-cR (exI l lv hv lw hw)
     omega
variable {a b p d:Pt}
theorem yDK:∀xs:List Rat,∃M:Rat,0<M/\∀x,x∈xs-> -M<x/\x<M
  |[]=>⟨1,by decide,λx hx=>by cases hx⟩
  |y::xs=>by
   obtain⟨M,hM,h⟩:=yDK xs
   by_cases hy:0<=y
   · refine⟨M+y,by grind,λx hx=>?_⟩
     rcases List.mem_cons.1 hx with rfl|hx
     · exact⟨by grind,by grind⟩
     · have:=h x hx;exact⟨by grind,by grind⟩
   · refine⟨M-y,by grind,λx hx=>?_⟩
     rcases List.mem_cons.1 hx with rfl|hx
     · exact⟨by grind,by grind⟩
     · have:=h x hx;exact⟨by grind,by grind⟩
theorem zED{x y:Rat}(h:y≠0):x/y*y=x:=by grind
theorem zZA{u:Nat}(hab:a.at u<b.at u)(hs:d.at u=0->sI a b p u):∃(g:Rat->Rat×Rat) (xs:List Rat),∀M,0<M->(∀x,x∈xs-> -M<x/\x<M)->Ax a b p d M u (g M).1 (g M).2:=by
 by_cases h0:d.at u=0
 · exact⟨λM=>(-M,M),[],λM C _=>zY9 C h0 (hs h0)⟩
 · by_cases hp:0<d.at u
   · exact⟨λ_=>((a.at u-p.at u)/d.at u,(b.at u-p.at u)/d.at u),[(a.at u-p.at u)/d.at u,(b.at u-p.at u)/d.at u],λM C hx=>yH9 hab hp (zED h0) (zED h0) ⟨hx _ zoj,hx _ zoj⟩⟩
   · exact⟨λ_=>((b.at u-p.at u)/d.at u,(a.at u-p.at u)/d.at u),[(b.at u-p.at u)/d.at u,(a.at u-p.at u)/d.at u],λM C hx=>yIA hab zoi (zED h0) (zED h0) ⟨hx _ zoj,hx _ zoj⟩⟩
theorem yJ2{t l2 h2 l3 h3:Rat}:exI t l2 h2 l3 h3=exI t l3 h3 l2 h2:=propext ⟨λe=>⟨e.1,e.2.2,e.2.1⟩,λe=>⟨e.1,e.2.2,e.2.1⟩⟩
theorem yJ4{t l2 h2 l3 h3:Rat}:enI t l2 h2 l3 h3=enI t l3 h3 l2 h2:=propext ⟨λe=>⟨e.1,e.2.2,e.2.1⟩,λe=>⟨e.1,e.2.2,e.2.1⟩⟩
theorem yC0{t l2 h2 l3 h3:Rat}(k:iB t l2 h2 l3 h3):iB t l3 h3 l2 h2:=λe c1 c2=>⟨(k e c2 c1).2,(k e c2 c1).1⟩
theorem yIT{d:Pt}(h:d≠zT):d.at 0≠0\/d.at 1≠0\/d.at 2≠0:=by
 by_cases h0:d.at 0=0
 · by_cases h1:d.at 1=0
   · by_cases h2:d.at 2=0
     · exact absurd (tR.2 ⟨h0,h1,h2⟩) h
     · exact .inr (.inr h2)
   · exact .inr (.inl h1)
 · exact .inl h0
theorem yCD(hab:∀i,a.at i<b.at i){v:Nat}(hv:v<3)(h0:d.at v=0)(hs:¬sI a b p v){u s:Nat}(hu:u<3)(hs2:s<2):crE (bxS a b) p d (2*u+s)=0:=by
 unfold crE
 by_cases hk:skP (bxS a b) p d (2*u+s)
 · exact if_pos hk
 · rw[if_neg hk]
   refine if_neg λe=>?_;have D:=(yDZ hab hu hs2 _).2.1 e;have G:∀t,(bJ p d t).at v=p.at v:=λt=>by rw[j0,h0];grind
   have C:∀t,¬sI a b (bJ p d t) v:=λt h=>hs (by unfold sI at *;rw[G] at h;exact h)
   by_cases huv:u=v
   · refine hk ?_
     unfold skP;rw[u5,yHU zoa,show(2*u+s)/2=v by omega,h0]
     split<;>grind
   · have:v=(u+1)%3\/v=(u+2)%3:=by omega
     rcases this with e1|e1
     · exact C _ (e1▸D.1)
     · exact C _ (e1▸D.2)
theorem zYU(hab:∀i,a.at i<b.at i)(hd:d≠zT)(hon:(∀u,u<3->kI a b p u)->∀u,u<3->sI a b p u)(hb:∀f,f<6->¬skP (bxS a b) p d f->whF (bxS a b) f (bJ p d (hnF (bxS a b) p f/cnF (bxS a b) d f))≠0):
 crS (bxS a b) p d 6=cR (∀u,u<3->sI a b p u):=by
 have e6:crS (bxS a b) p d 6=(crE (bxS a b) p d (2*0)+crE (bxS a b) p d (2*0+1))+(crE (bxS a b) p d (2*1)+crE (bxS a b) p d (2*1+1))+(crE (bxS a b) p d (2*2)+crE (bxS a b) p d (2*2+1)):=by
  show 0+crE (bxS a b) p d 0+crE (bxS a b) p d 1+crE (bxS a b) p d 2+crE (bxS a b) p d 3+crE (bxS a b) p d 4+crE (bxS a b) p d 5=_
  simp only[Nat.reduceMul,Nat.reduceAdd];omega
 by_cases hall:∀u,u<3->d.at u=0->sI a b p u
 · obtain⟨g0,x0,A0⟩:=zZA (p:=p) (d:=d) (hab 0) (hall 0 zod)
   obtain⟨g1,x1,A1⟩:=zZA (p:=p) (d:=d) (hab 1) (hall 1 zod);obtain⟨g2,x2,A2⟩:=zZA (p:=p) (d:=d) (hab 2) (hall 2 zod);obtain⟨M,D,hx⟩:=yDK (x0++(x1++x2));have J:=A0 M D λx h=>hx x (by simp[h]);have H:=A1 M D λx h=>hx x (by simp[h]);have G:=A2 M D λx h=>hx x (by simp[h])
   clear A0 A1 A2 hx
   generalize (g0 M).1=l1 at *;generalize (g0 M).2=h1 at *;generalize (g1 M).1=l2 at *;generalize (g1 M).2=h2 at *;generalize (g2 M).1=l3 at *;generalize (g2 M).2=h3 at *;have nz:=yIT hd;obtain⟨s0,k0,m0⟩:=zGZ hab D (u:=0) zod J H G (λe=>nz.elim (λk=>absurd e k) id) hb;obtain⟨s1,k1,m1⟩:=zGZ hab D (u:=1) zod H G J (λe=>nz.elim (λk=>.inr k) λk=>k.elim (λk=>absurd e k) λk=>.inl k) hb;obtain⟨s2,k2,m2⟩:=zGZ hab D (u:=2) zod G J H (λe=>nz.elim (λk=>.inl k) λk=>k.elim (λk=>.inr k) λk=>absurd e k) hb;rw[e6,s0,s1,s2,yJ2 (t:=h2),yJ4 (t:=l2)];have r0:∀u,(bJ p d 0).at u=p.at u:=λu=>by rw[j0];grind
   have ab:-M<0:=by grind
   have C:∀{u l h},Ax a b p d M u l h->(sI a b p u↔l<0/\0<h):=λ{u l h} A=>by
    have:=A.s 0 ab D;unfold sI at *;rw[r0] at this;exact this
   have kv:∀{u l h},Ax a b p d M u l h->(kI a b p u↔l<=0/\0<=h):=λ{u l h} A=>by
    have:=A.k 0 ab D;unfold kI at *;rw[r0] at this;exact this
   have aa:=yGT J.lt H.lt G.lt k0 (yC0 k1) k2 m0 (yC0 m1) m2 λc0 c1 c2=>by
    have O:=hon λu hu=>by
     have:u=0\/u=1\/u=2:=by omega
     rcases this with rfl|rfl|rfl
     · exact(kv J).2 c0
     · exact(kv H).2 c1
     · exact(kv G).2 c2
    exact⟨(C J).1 (O 0 zod),(C H).1 (O 1 zod),(C G).1 (O 2 zod)⟩
   have Z:((l1<0/\0<h1)/\(l2<0/\0<h2)/\l3<0/\0<h3)=(∀u,u<3->sI a b p u):=propext ⟨λe u hu=>by
    have:u=0\/u=1\/u=2:=by omega
    rcases this with rfl|rfl|rfl
    · exact(C J).2 e.1
    · exact(C H).2 e.2.1
    · exact(C G).2 e.2.2,λe=>⟨(C J).1 (e 0 zod),(C H).1 (e 1 zod),(C G).1 (e 2 zod)⟩⟩
   rw[Z] at aa;omega
 · obtain⟨v,hv⟩:=Classical.not_forall.1 hall
   obtain⟨U,hv⟩:=Classical.not_imp.1 hv;obtain⟨h0,O⟩:=Classical.not_imp.1 hv;have z:∀u s,u<3->s<2->crE (bxS a b) p d (2*u+s)=0:=λu s hu h2=>yCD hab U h0 O hu h2;rw[e6,z 0 1 zod zod,z 1 1 zod zod,z 2 1 zod zod,show crE (bxS a b) p d (2*0)=0 from z 0 0 zod zod,show crE (bxS a b) p d (2*1)=0 from z 1 0 zod zod,show crE (bxS a b) p d (2*2)=0 from z 2 0 zod zod,kB λe=>O (e v U)]
   rfl
def onP(s:Sd)(p:Pt)(f:Nat):Prop:=sdZ (s.2.1.getD f zA).1 p=0/\0<=whF s f p
def onB(s:Sd)(p:Pt):Prop:=∃f,f<s.2.1.length/\onP s p f
noncomputable def onI(s:Sd)(p:Pt):Nat:=if onB s p then nM λf=>f<s.2.1.length/\onP s p f else 0
theorem zWD{s:Sd}{p:Pt}{f:Nat}(hf:f<s.2.1.length)(h:onP s p f)(hl:∀j,j<f->¬onP s p j):onI s p=f/\onB s p:=by
 have C:onB s p:=⟨f,hf,h⟩;obtain⟨h1,h2,h3⟩:=oL (q:=λf=>f<s.2.1.length/\onP s p f) ⟨hf,h⟩;refine⟨?_,C⟩;unfold onI;rw[if_pos C]
 rcases Nat.lt_or_ge (nM λf=>f<s.2.1.length/\onP s p f) f with h4|h4
 · exact absurd h2.2 (hl _ h4)
 · omega
theorem yA4{s:Sd}{p:Pt}(h:∀f,f<s.2.1.length->¬onP s p f):onI s p=0/\¬onB s p:=by
 have C:¬onB s p:=λ⟨f,D,e⟩=>h f D e;exact⟨if_neg C,C⟩
noncomputable def crP(s:Sd)(p d:Pt):Nat->Int×Int
  |0=>(0,0)
  |n+1=>if skP s p d n then crP s p d n else if whF s n (bJ p d (hnF s p n/cnF s d n))=1 then(if 0<cnF s d n then((crP s p d n).1+1,(crP s p d n).2) else((crP s p d n).1,(crP s p d n).2+1)) else crP s p d n
theorem zKL(s:Sd)(p d:Pt):∀n,(crP s p d n).1-(crP s p d n).2=crS s p d n
  |0=>rfl
  |n+1=>by
   have ih:=zKL s p d n;unfold crP crS crE
   split
   · omega
   · split
     · split
       · show(crP s p d n).1+1-(crP s p d n).2=_;omega
       · show(crP s p d n).1-((crP s p d n).2+1)=_;omega
     · omega
noncomputable def zC3(s:Sd)(p:Pt):Int:=if onB s p then 0 else crS s p (vK (dirN s p)) s.2.1.length
noncomputable def inZ(s:Sd)(p:Pt):Int:=if onB s p then 0 else if 0<zC3 s p then 1 else -1
theorem yCQ(k:Int):vK k≠zT:=λe=>by
 have:=congrArg T3.x e;have e1:((1:Int):Rat)=0:=this;exact absurd e1 zod
section
variable {a b:Pt}
theorem zUT(h:a.x<b.x/\a.y<b.y/\a.z<b.z):gC (bxS a b):=by
 have g:∀i,i<uB1.length->∀k,k<i->¬uB1.getD i u0=uB1.getD k u0:=by decide +kernel
 have D:vO (uB1.map (cU a b),fB3 a b,[])=[[[0,1,3,2]],[[4,6,7,5]],[[0,4,5,1]],[[2,3,7,6]],[[0,2,6,4]],[[1,5,7,3]]]:=I;refine zKO h (λi k G hi=>g i hi k G) ⟨by decide,show 6<=256 by decide⟩ (λf C=>⟨_,(dQ (a:=a) (b:=b) C).1⟩) (λf C=>?_) ?_ ?_
 · have H:f<6:=C
   have:f=0\/f=1\/f=2\/f=3\/f=4\/f=5:=by omega
   rcases this with rfl|rfl|rfl|rfl|rfl|rfl
   · show vfP [[0,1,3,2]];decide +kernel
   · show vfP [[4,6,7,5]];decide +kernel
   · show vfP [[0,4,5,1]];decide +kernel
   · show vfP [[2,3,7,6]];decide +kernel
   · show vfP [[0,2,6,4]];decide +kernel
   · show vfP [[1,5,7,3]];decide +kernel
 · rw[D];decide +kernel
 · rw[D];decide +kernel
theorem zQL(h:∀i,a.at i<b.at i)(p:Pt):onB (bxS a b) p↔(∀u,u<3->kI a b p u)/\¬∀u,u<3->sI a b p u:=by
 have hk:∀v,sI a b p v->kI a b p v:=λv e=>⟨Rat.le_of_lt e.1,Rat.le_of_lt e.2⟩;have C:∀u s,u<3->s<2->(onP (bxS a b) p (2*u+s)↔(if s=1 then b.at u=p.at u else p.at u=a.at u)/\kI a b p ((u+1)%3)/\kI a b p ((u+2)%3)):=λu s J Z=>by
  obtain⟨w0,O⟩:=yDZ h J Z p;have hw:0<=whF (bxS a b) (2*u+s) p↔kI a b p ((u+1)%3)/\kI a b p ((u+2)%3):=by
   constructor
   · intro e
     by_cases h0:whF (bxS a b) (2*u+s) p=0
     · exact(w0.1 h0).1
     · have h1:whF (bxS a b) (2*u+s) p=1:=by
        rw[yCP h zoa] at e h0 ⊢
        split at e
        · rename_i hc;rw[if_pos hc] at h0;exact absurd I h0
        · split at e
          · rename_i hc hc2;rw[if_neg hc,if_pos hc2]
          · exact absurd e zod
       exact⟨hk _ (O.1 h1).1,hk _ (O.1 h1).2⟩
   · intro e
     by_cases hs2:sI a b p ((u+1)%3)/\sI a b p ((u+2)%3)
     · rw[O.2 hs2];decide
     · rw[w0.2 ⟨e,hs2⟩];exact Int.le_refl 0
  unfold onP;rw[hw];have U:sdZ ((bxS a b).2.1.getD (2*u+s) zA).1 p=0↔hnF (bxS a b) p (2*u+s)=0:=by
   unfold sdZ hgt hnF;rw[uP];constructor<;>intro e<;>grind
  rw[U,yG3 zoa,show(2*u+s)/2=u by omega]
  by_cases e1:s=1
  · rw[if_pos zoa,if_pos e1]
    constructor
    · rintro⟨e,k⟩;exact⟨by grind,k⟩
    · rintro⟨e,k⟩;exact⟨by grind,k⟩
  · rw[if_neg zoa,if_neg e1]
    constructor
    · rintro⟨e,k⟩;exact⟨by grind,k⟩
    · rintro⟨e,k⟩;exact⟨by grind,k⟩
 have M:∀u,u<3->∀q:Nat->Prop,q u->q ((u+1)%3)->q ((u+2)%3)->∀v,v<3->q v:=λu J q h0 h1 h2 v hv=>by
  have:v=u\/v=(u+1)%3\/v=(u+2)%3:=by omega
  rcases this with rfl|rfl|rfl<;>assumption
 constructor
 · rintro⟨f,hf,ho⟩
   have ab:f<6:=hf;have e:f=2*(f/2)+f%2:=by omega
   rw[e] at ho;obtain⟨h1,h2,h3⟩:=(C (f/2) (f%2) zoa zoa).1 ho;have aa:=h (f/2);have G:kI a b p (f/2):=by
    unfold kI
    by_cases e1:f%2=1
    · rw[if_pos e1] at h1;exact⟨by grind,by grind⟩
    · rw[if_neg e1] at h1;exact⟨by grind,by grind⟩
   refine⟨M (f/2) zoa _ G h2 h3,λZ=>?_⟩;have:=Z (f/2) zoa;unfold sI at this
   by_cases e1:f%2=1
   · rw[if_pos e1] at h1;grind
   · rw[if_neg e1] at h1;grind
 · rintro⟨H,hn⟩
   obtain⟨u,J⟩:=Classical.not_forall.1 hn;obtain⟨D,J⟩:=Classical.not_imp.1 J;have G:=H u D;unfold sI at J;unfold kI at G;have k1:=H ((u+1)%3) zoa;have k2:=H ((u+2)%3) zoa
   by_cases e:p.at u=a.at u
   · exact⟨2*u+0,show 2*u+0<6 by omega,(C u 0 D zod).2 ⟨by rw[if_neg zod];exact e,k1,k2⟩⟩
   · exact⟨2*u+1,show 2*u+1<6 by omega,(C u 1 D zod).2 ⟨by rw[if_pos I];grind,k1,k2⟩⟩
theorem zP2(h:∀i,a.at i<b.at i){p:Pt}(ho:¬onB (bxS a b) p):zC3 (bxS a b) p=cR (∀u,u<3->sI a b p u):=by
 have D:=zUT (a:=a) (b:=b) ⟨h 0,h 1,h 2⟩;have H:=iO (gL D) p;unfold zC3;rw[if_neg ho];refine zYU h (yCQ _) (λC=>Classical.not_not.1 λe=>ho ((zQL h p).2 ⟨C,e⟩)) λf G C=>zO3 (zER D) G H.2.1 C
theorem yJW(h:∀i,a.at i<b.at i)(p:Pt):inZ (bxS a b) p=if ∀u,u<3->sI a b p u then 1 else if ∀u,u<3->kI a b p u then 0 else -1:=by
 unfold inZ
 by_cases ho:onB (bxS a b) p
 · obtain⟨h1,h2⟩:=(zQL h p).1 ho
   rw[if_pos ho,if_neg h2,if_pos h1]
 · rw[if_neg ho,zP2 h ho]
   by_cases hs:∀u,u<3->sI a b p u
   · rw[aX hs,if_pos zod,if_pos hs]
   · rw[kB hs,if_neg zod,if_neg hs,if_neg λe=>ho ((zQL h p).2 ⟨e,hs⟩)]
end
abbrev Fm:=Pl×List (List Pt)×Int×Int
abbrev Md:=List Fm×List (List Pt)
abbrev ed0:List Pt:=List.replicate 2 zT
abbrev fm0:Fm:=(zSO,([]:List (List Pt)),(0:Int),(0:Int))
def zAL(P:List Pt)(L:List (List Int)):Nat->List (List Pt):=qG λl=>zE5 P (L.getD l []) (L.getD l []).length
noncomputable def fmF(s:Sd)(f:Fc):Fm:=(f.1,zAL s.1 f.2.1 f.2.1.length,(↑(axI f.1.1):Int),(↑(axJ f.1.1):Int))
def edP(P:List Pt)(e:PIr):List Pt:=[ptI P e.1,ptI P e.2]
noncomputable def fmT(s:Sd):Nat->List Fm:=qG λf=>fmF s (s.2.1.getD f zA)
noncomputable def tK(s:Sd):Md:=(fmT s s.2.1.length,(sfE s s.2.1.length).map (edP s.1))
noncomputable def whM(f:Fm)(p:Pt):Int:=whZ f.2.1 (pr p f.2.2.1.toNat f.2.2.2.toNat) f.2.2.1.toNat f.2.2.2.toNat
def onM(md:Md)(p:Pt)(f:Nat):Prop:=(sdZ (md.1.getD f fm0).1 p=0/\0<(md.1.getD f fm0).2.1.length)/\0<=whM (md.1.getD f fm0) p
def onA(md:Md)(p:Pt):Prop:=∃f,f<md.1.length/\onM md p f
noncomputable def onJ(md:Md)(p:Pt):Nat:=if onA md p then nM λf=>f<md.1.length/\onM md p f else 0
def cnM(f:Fm)(d:Pt):Rat:=xE f.1.1 d
def hnM(f:Fm)(p:Pt):Rat:=f.1.2-xE f.1.1 p
def skM(f:Fm)(p d:Pt):Prop:=yR (cnM f d)*yR (hnM f p)<=0\/f.2.1.length=0
noncomputable def wrM(f:Fm)(p d:Pt):Int:=whM f (bJ p d (hnM f p/cnM f d))
def bdM(f:Fm)(p d:Pt):Prop:=¬skM f p d/\wrM f p d=0
noncomputable def crM(md:Md)(p d:Pt):Nat->Int×Int
  |0=>(0,0)
  |n+1=>if skM (md.1.getD n fm0) p d then crM md p d n else if wrM (md.1.getD n fm0) p d=1 then(if 0<cnM (md.1.getD n fm0) d then((crM md p d n).1+1,(crM md p d n).2) else((crM md p d n).1,(crM md p d n).2+1)) else crM md p d n
def nbM(md:Md)(p d:Pt):Prop:=∀f,f<md.1.length->¬bdM (md.1.getD f fm0) p d
def clM(md:Md)(p v:Pt):Prop:=∀q,q<md.2.length->¬aC p ((md.2.getD q ed0).getD 0 zT) ((md.2.getD q ed0).getD 1 zT) v
noncomputable def cD(md:Md)(p:Pt):Nat:=nM λk=>clM md p (vK k)
def yHB(f:Fm):Prop:=(0<=f.2.2.1/\f.2.2.1<3)/\(0<=f.2.2.2/\f.2.2.2<3)/\f.2.1.length<=1000/\∀x,x∈f.2.1->x.length<=1000
def zTC(md:Md):Prop:=md.1.length<=1000/\md.2.length<=2000000/\∀f,f<md.1.length->yHB (md.1.getD f fm0)
theorem zSU{md:Md}{p:Pt}{f:Nat}(hf:f<md.1.length)(h:onM md p f)(hl:∀u,u<f->¬onM md p u):onJ md p=f/\onA md p:=by
 have C:onA md p:=⟨f,hf,h⟩;obtain⟨h1,h2,h3⟩:=oL (q:=λf=>f<md.1.length/\onM md p f) ⟨hf,h⟩;refine⟨?_,C⟩;unfold onJ;rw[if_pos C]
 rcases Nat.lt_or_ge (nM λf=>f<md.1.length/\onM md p f) f with h4|h4
 · exact absurd h2.2 (hl _ h4)
 · omega
theorem zWE{md:Md}{p:Pt}(h:∀f,f<md.1.length->¬onM md p f):onJ md p=0/\¬onA md p:=by
 have C:¬onA md p:=λ⟨f,D,e⟩=>h f D e;exact⟨if_neg C,C⟩
theorem zQA{q:Rat}:yR q=0↔q=0:=by
 refine⟨λe=>?_,aL⟩;rw[rO] at e
 split at e
 · assumption
 · split at e<;>exact absurd e zod
abbrev Ac:=Pt×Pt×Prop
def zGC(x:Ac)(d:Pt):Prop:=if x.2.2 then xH x.2.1 d=zT else xE x.1 d=0
noncomputable def acF(p:Pt)(e:List Pt):Ac:=(xH (wV (e.getD 0 zT) p) (wV (e.getD 1 zT) p),if xH (wV (e.getD 0 zT) p) (wV (e.getD 1 zT) p)=zT then wV (e.getD 1 zT) (e.getD 0 zT) else zT,xH (wV (e.getD 0 zT) p) (wV (e.getD 1 zT) p)=zT)
noncomputable def acT(p:Pt)(E:List (List Pt)):Nat->List Ac:=qG λq=>acF p (E.getD q ed0)
theorem yB9(a b d:Pt):xE (xH a b) d=oR a b d:=by
 unfold oR xE xH;grind
theorem zXX(p d:Pt)(e:List Pt):zGC (acF p e) d↔aC p (e.getD 0 zT) (e.getD 1 zT) d:=by
 unfold zGC aC acF
 by_cases h:xH (wV (e.getD 0 zT) p) (wV (e.getD 1 zT) p)=zT
 · simp only[h,if_true]
 · simp only[h,if_false]
   rw[show xE (xH (wV (e.getD 0 zT) p) (wV (e.getD 1 zT) p)) d=oR (wV (e.getD 0 zT) p) (wV (e.getD 1 zT) p) d from yB9 _ _ _]
noncomputable def crA(md:Md)(p d:Pt):Int:=if nbM md p d then(crM md p d md.1.length).1 else 0
noncomputable def crB(md:Md)(p d:Pt):Int:=if nbM md p d then(crM md p d md.1.length).2 else 0
theorem zCW(md:Md)(p d:Pt):∀n:Nat,(0<=(crM md p d n).1/\(crM md p d n).1<=n)/\(0<=(crM md p d n).2/\(crM md p d n).2<=n)
  |0=>by
   show(0<=(0:Int)/\(0:Int)<=((0:Nat):Int))/\(0<=(0:Int)/\(0:Int)<=((0:Nat):Int))
   omega
  |n+1=>by
   have ih:=zCW md p d n;unfold crM
   split
   · omega
   · split
     · split
       · show(0<=(crM md p d n).1+1/\(crM md p d n).1+1<=_)/\(0<=(crM md p d n).2/\(crM md p d n).2<=_)
         omega
       · show(0<=(crM md p d n).1/\(crM md p d n).1<=_)/\(0<=(crM md p d n).2+1/\(crM md p d n).2+1<=_)
         omega
     · omega
section
variable {md:Md}{p d:Pt}{f:Nat}
theorem zM4(h:skM (md.1.getD f fm0) p d):crM md p d (f+1)=crM md p d f:=if_pos h
theorem yCE(h:¬skM (md.1.getD f fm0) p d)(h1:wrM (md.1.getD f fm0) p d=1)(h2:0<cnM (md.1.getD f fm0) d):crM md p d (f+1)=((crM md p d f).1+1,(crM md p d f).2):=(if_neg h).trans ((if_pos h1).trans (if_pos h2))
theorem yHR(h:¬skM (md.1.getD f fm0) p d)(h1:wrM (md.1.getD f fm0) p d=1)(h2:¬0<cnM (md.1.getD f fm0) d):crM md p d (f+1)=((crM md p d f).1,(crM md p d f).2+1):=(if_neg h).trans ((if_pos h1).trans (if_neg h2))
theorem yHQ(h:¬skM (md.1.getD f fm0) p d)(h1:¬wrM (md.1.getD f fm0) p d=1):crM md p d (f+1)=crM md p d f:=(if_neg h).trans (if_neg h1)
theorem yCF(hf:f<md.1.length)(h:bdM (md.1.getD f fm0) p d):crA md p d=0/\crB md p d=0/\¬nbM md p d:=by
 have C:¬nbM md p d:=λe=>e f hf h;exact⟨if_neg C,if_neg C,C⟩
theorem yHS(h:∀f,f<md.1.length->¬bdM (md.1.getD f fm0) p d):crA md p d=(crM md p d md.1.length).1/\crB md p d=(crM md p d md.1.length).2/\nbM md p d:=⟨if_pos h,if_pos h,h⟩
end
theorem ac_t{p:Pt}{E:List (List Pt)}{q:Nat}{D:List Ac}(hD:D=acT p E q)(h:xH (wV ((E.getD q ed0).getD 0 zT) p) (wV ((E.getD q ed0).getD 1 zT) p)=zT):D++[(xH (wV ((E.getD q ed0).getD 0 zT) p) (wV ((E.getD q ed0).getD 1 zT) p),(wV ((E.getD q ed0).getD 1 zT) ((E.getD q ed0).getD 0 zT),xH (wV ((E.getD q ed0).getD 0 zT) p) (wV ((E.getD q ed0).getD 1 zT) p)=zT))]=acT p E (q+1):=by
 rw[hD]
 show _=acT p E q++[acF p (E.getD q ed0)]
 unfold acF;rw[if_pos h]
theorem ac_f{p:Pt}{E:List (List Pt)}{q:Nat}{D:List Ac}(hD:D=acT p E q)(h:¬xH (wV ((E.getD q ed0).getD 0 zT) p) (wV ((E.getD q ed0).getD 1 zT) p)=zT):D++[(xH (wV ((E.getD q ed0).getD 0 zT) p) (wV ((E.getD q ed0).getD 1 zT) p),(zT,xH (wV ((E.getD q ed0).getD 0 zT) p) (wV ((E.getD q ed0).getD 1 zT) p)=zT))]=acT p E (q+1):=by
 rw[hD]
 show _=acT p E q++[acF p (E.getD q ed0)]
 unfold acF;rw[if_neg h]
abbrev ac0:Ac:=(zT,(zT,False))
theorem zZM{p v:Pt}{md:Md}{u:Nat}(hu:u<md.2.length):zGC ((acT p md.2 md.2.length).getD u ac0) v↔aC p ((md.2.getD u ed0).getD 0 zT) ((md.2.getD u ed0).getD 1 zT) v:=by
 rw[show(acT p md.2 md.2.length).getD u ac0=acF p (md.2.getD u ed0) from qF _ ac0 hu];exact zXX p v _
theorem zM2{p:Pt}{md:Md}{D:List Ac}{u kk:Nat}(hD:D=acT p md.2 md.2.length)(hc:clM md p (vK ↑(cD md p)))(hk:kk<=cD md p)(hu:u<D.length)(h:zGC (D.getD u ac0) (vK ↑kk)):kk+1<=cD md p:=by
 have C:D.length=md.2.length:=by rw[hD];exact yZ _ _
 rcases Nat.lt_or_ge kk (cD md p) with h1|h1
 · exact h1
 · have e:kk=cD md p:=by omega
   rw[e,hD] at h;exact absurd ((zZM zoa).1 h) (hc u zoa)
theorem yB7{p:Pt}{md:Md}{D:List Ac}{kk:Nat}(hD:D=acT p md.2 md.2.length)(hk:kk<=cD md p)(h:∀v,v<D.length->¬zGC (D.getD v ac0) (vK ↑kk)):kk=cD md p:=by
 have H:D.length=md.2.length:=by rw[hD];exact yZ _ _
 have G:clM md p (vK ↑kk):=λq C e=>by
  refine h q zoa ?_;rw[hD];exact(zZM C).2 e
 have h1:cD md p<=kk:=(oL (q:=λk=>clM md p (vK k)) G).1;omega
theorem zIS(md:Md)(p d:Pt):(0<=crA md p d/\crA md p d<=md.1.length)/\(0<=crB md p d/\crB md p d<=md.1.length):=by
 have h:=zCW md p d md.1.length;unfold crA crB
 split
 · exact h
 · omega
noncomputable def wdM(md:Md)(p:Pt):Int:=if onA md p then 0 else crA md p (vK ↑(cD md p))-crB md p (vK ↑(cD md p))
theorem zKH{s:Sd}{f:Nat}(hf:f<s.2.1.length):(tK s).1.getD f fm0=fmF s (s.2.1.getD f zA):=qF _ fm0 hf
theorem g5(s:Sd):(tK s).1.length=s.2.1.length:=yZ _ _
theorem yAI{s:Sd}{f:Nat}(hf:f<s.2.1.length)(hn:nmP s f):xG s f=zAL s.1 (s.2.1.getD f zA).2.1 (s.2.1.getD f zA).2.1.length:=by
 unfold xG;rw[if_pos ⟨⟨by omega,by omega⟩,by simpa using hn⟩]
 rfl
theorem zP3{s:Sd}{f:Nat}(hf:f<s.2.1.length)(hn:nmP s f)(p:Pt):whM (fmF s (s.2.1.getD f zA)) p=whF s f p:=by
 rw[zQ6,yAI hf hn];unfold whM fmF;simp only[Int.toNat_natCast]
theorem zIF{s:Sd}(h:gC s){f:Nat}(hf:f<s.2.1.length):0<(s.2.1.getD f zA).2.1.length:=(zEQ h hf).1.1.1
theorem zD2{s:Sd}(h:gC s)(p:Pt){f:Nat}(hf:f<s.2.1.length):onM (tK s) p f↔onP s p f:=by
 unfold onM onP;rw[zKH hf,zP3 hf (zEQ h hf).2];have h1:0<(fmF s (s.2.1.getD f zA)).2.1.length:=by
  show 0<(zAL _ _ _).length
  rw[show(zAL s.1 (s.2.1.getD f zA).2.1 (s.2.1.getD f zA).2.1.length).length=_ from yZ _ _];exact zIF h hf
 exact⟨λe=>⟨e.1.1,e.2⟩,λe=>⟨⟨e.1,h1⟩,e.2⟩⟩
theorem rH{s:Sd}(h:gC s)(p:Pt):onA (tK s) p↔onB s p:=by
 unfold onA onB;rw[g5];exact⟨λ⟨f,C,e⟩=>⟨f,C,(zD2 h p C).1 e⟩,λ⟨f,C,e⟩=>⟨f,C,(zD2 h p C).2 e⟩⟩
theorem zJA{s:Sd}(h:gC s)(p d:Pt){f:Nat}(hf:f<s.2.1.length):skM (fmF s (s.2.1.getD f zA)) p d↔skP s p d f:=by
 have h1:(fmF s (s.2.1.getD f zA)).2.1.length≠0:=by
  show(zAL _ _ _).length≠0
  rw[show(zAL s.1 (s.2.1.getD f zA).2.1 (s.2.1.getD f zA).2.1.length).length=_ from yZ _ _];have:=zIF h hf;omega
 exact⟨λe=>e.resolve_right h1,λe=>.inl e⟩
theorem zP0{s:Sd}(h:gC s)(p d:Pt){f:Nat}(hf:f<s.2.1.length):wrM (fmF s (s.2.1.getD f zA)) p d=whF s f (bJ p d (hnF s p f/cnF s d f)):=zP3 hf (zEQ h hf).2 _
theorem zRF{s:Sd}(h:gC s)(p d:Pt):∀n,n<=s.2.1.length->crM (tK s) p d n=crP s p d n
  |0,_=>rfl
  |n+1,hn=>by
   unfold crM crP;rw[zKH zoa,zRF h p d n zoa,zP0 h p d zoa]
   by_cases e:skP s p d n
   · rw[if_pos e,if_pos ((zJA h p d zoa).2 e)]
   · rw[if_neg e,if_neg λe'=>e ((zJA h p d zoa).1 e')]
     rfl
theorem zYC(P:List Pt)(S:List PIr){q:Nat}(hq:q<S.length):(S.map (edP P)).getD q ed0=edP P S[q]:=by
 rw[List.getD_eq_getElem?_getD,List.getElem?_map,List.getElem?_eq_getElem hq]
 rfl
theorem zRL{s:Sd}(h:gC s)(p v:Pt):clM (tK s) p v↔dW s p v:=by
 rw[zRK (gL h)];unfold clM tK;simp only[List.length_map];constructor
 · intro e x hx
   obtain⟨q,C,rfl⟩:=List.mem_iff_getElem.1 hx;have:=e q C;rw[zYC _ _ C] at this;exact this
 · intro e q C
   have:=e _ (List.getElem_mem C);rw[zYC _ _ C];exact this
theorem zGN{s:Sd}(h:gC s)(p:Pt):cD (tK s) p=dirN s p:=by
 unfold cD dirN
 congr 1
 funext k
 exact propext (zRL h p _)
theorem yBE{s:Sd}(h:gC s){p d:Pt}(hc:dW s p d):nbM (tK s) p d:=by
 intro f C e;rw[g5] at C;rw[zKH C] at e;have D:¬skP s p d f:=λG=>e.1 ((zJA h p d C).2 G);have h0:=e.2;rw[zP0 h p d C] at h0;exact zO3 (zER h) C hc D h0
theorem zI0{s:Sd}(h:gC s)(p:Pt):wdM (tK s) p=zC3 s p:=by
 unfold wdM zC3;rw[zGN h]
 by_cases ho:onB s p
 · rw[if_pos ho,if_pos ((rH h p).2 ho)]
 · rw[if_neg ho,if_neg λe=>ho ((rH h p).1 e)]
   have C:=yBE h (iO (gL h) p).2.1;unfold crA crB;rw[if_pos C,if_pos C,g5,zRF h _ _ _ (Nat.le_refl _)];exact zKL s p _ _
end Bk
