/- Texts that the proof needs, part 5. -/
import Derived.Test.YtpkaegemlpaenaaGreatK4
set_option linter.unusedVariables false
set_option linter.unusedSimpArgs false
namespace Go.Proofs.YtpkaegemlpaenaaGreat
open Bk Go Tryz
set_option maxRecDepth 10000
set_option maxHeartbeats 1000000
attribute [local irreducible] GL GC GQ W OpV
section
variable{w0:World}{h0:Mem}(hs:MLe h0 (mem w0))
include hs
theorem cX{k:Nat}{vp:Value}{p:Tq}(rp:(tPt k).Is h0 vp p):
 Calls Tryz.prog 185 #[vp] w0 (Ret w0 h0 (λh r=>(tPt (k+1)).Is h r (zZ p))):=by
 refine cb1 8 vp func185 hs ?_;refine go2 ?_;refine nB rp λb1 ab J=>(nA (ρ:=(tPt (k+1))) (X:=zT) yU (xW (yN oM)) λb2 aa M=>(go5 ?_));refine lX (xB yD (Pc.tx pH) J) λv4 r4=>(go1 ?_);refine lX (xB yD (Pc.ty pH) J) λv6 r6=>(lX (xV (ρ:=(tPt (k+1))) (wJ (ps':=[(0,_),(1,_)]) underlying31 yU I I sizeOf29 e4z I (xW (yN oM)) (zG I (Pc.tx (Pc.here _)) (r4.le (Le.q (l:=k+1) oM)) (zG I (Pc.ty (Pc.here _)) (r6.le (Le.q (l:=k+1) oM)) zR)))) λv7 Z=>(yI (A:=[]) (uB sizeOf31 pH M Z) λO H=>(go3 ?_)));refine uJ (fV (t:=2) zL mh0 I H) ?_;intro U C D;refine yW (λE S=>yE I C E S) ?_;exact D
theorem jE{k:Nat}{va:Value}{a:Tq}(ra:(tPt k).Is h0 va a){vb:Value}{b:Tq}(rb:(tPt k).Is h0 vb b)(hcd0:k<=2000000000):
 Calls Tryz.prog 174 #[va,vb] w0 (Ret w0 h0 (λ_ r=>r=vB ((pr a 0 1)=(pr b 0 1)))):=by
 refine cb2 17 va vb func174 hs ?_;refine go2 ?_;refine nB ra λb2 ad D=>(nB rb λb3 ac C=>(go6 ?_));refine lX (xB yD (Pc.tx pH) D) λv6 r6=>(go1 ?_);refine lX (xB yD (Pc.tx pH) C) λv8 r8=>(cL (ev2 I I) call73 (λw hs=>tX hs r6 r8 oM) λv9 h1 ai r9=>?_);obtain rfl:v9=vB (a.x=b.x):=r9;refine uY (ι:=Mem) 7 (λm_=>MLe h1 m_) (λ_=>[(16,vB ((a.x=b.x)/\(a.y=b.y)))]) (λ_=>[.var b3 31 ac,.var b2 31 ad]) (λm_=>m_) ?_ ?_
 ·
  refine zW (a.x=b.x) (λJ=>?_) (λJ=>?_)
  ·
   refine gT J I (go3 ?_);refine lX (xB yD (Pc.ty pH) D) λah Z=>(go3 ?_);refine lX (xB yD (Pc.ty pH) C) λae U=>(go1 ?_);refine cL (ev2 I I) call73 (λw hs=>tX hs Z U oM) λM h2 ab O=>?_;obtain rfl:M=vB (a.y=b.y):=O;refine go2 ?_;refine zS h2 ab ⟨?_,trivial⟩ I I;exact congrArg some (xH J)
  refine gF J I (go7 ?_);refine zS h1 (MLe.refl _) ⟨?_,trivial⟩ I I;exact congrArg some (xJ J)
 intro aa H;refine tZ ?_;refine go4 ?_;refine zC I I ?_
 first|exact kD (by rw[zWL];exact Iff.rfl)|exact(xT (by rw[zWL];exact Iff.rfl)).symm|exact(yM (by rw[zWL];exact Iff.rfl)).symm
theorem pL{k:Nat}{va:Value}{a:Tq}(ra:(tPt k).Is h0 va a){vb:Value}{b:Tq}(rb:(tPt k).Is h0 vb b)(hcd0:k<=2000000000):
 Calls Tryz.prog 200 #[va,vb] w0 (Ret w0 h0 (λ_ r=>r=vB (lx (pr a 0 1) (pr b 0 1)))):=by
 refine cb2 21 va vb func200 hs ?_;refine go2 ?_;refine nB ra λb2 ak H=>(nB rb λb3 aj D=>(go7 ?_));refine lX (xB yD (Pc.tx pH) H) λv7 r7=>(go1 ?_);refine lX (xB yD (Pc.tx pH) D) λv9 r9=>(cL (ev2 I I) call17 (λw hs=>fZ hs r7 r9 oM) λM h1 ai aa=>?_);obtain rfl:M=vI (xS a.x b.x):=aa;have ac:=qV a.x b.x;refine gc9 (λC=>?_) λC=>?_
 ·
  refine go9 ?_;refine zC I I ?_;exact kD (yHS C)
 refine go5 ?_;refine lX (xB yD (Pc.ty pH) H) λae Z=>(go1 ?_);refine lX (xB yD (Pc.ty pH) D) λad U=>(cL (ev2 I I) call17 (λw hs=>fZ hs Z U oM) λJ h2 ah O=>?_);obtain rfl:J=vI (xS a.y b.y):=O;have ab:=qV a.y b.y;refine go5 ?_;refine zC I I ?_;exact kD (yHR C)
theorem pM{k:Nat}{vl:Value}{l:(List Tq)}(rl:(tLs k).Is h0 vl l)(hcd0:k<=100000)(hcd1:l.length<=1000):
 Calls Tryz.prog 131 #[vl] w0 (Ret w0 h0 (λh r=>(rpQ 1000000000).Is h r (uP l 0 1 l.length))):=by
 refine cb1 40 vl func131 hs ?_;refine go2 ?_;refine nA (ρ:=(rpQ 1)) (X:=(0:Rat)) wB (yN dC) λb2 bj au=>(go4 ?_);refine lX (xV (ρ:=(rpQ 1)) (wE (ps':=[]) underlying29 wB I I (qB underlying29) trivial I (yN dC) zR)) λv7 r7=>(nA (ρ:=(rpQ 1)) (X:=(0:Rat)) wB (yN dC) λb3 ch ar=>(yI (A:=[]) (uB sizeOf29 pH ar r7) λao am=>(go9 ?_)));refine gcL (ι:=Nat×Nat×List Value×Mem) (λ(m,q,J,ma)=>(MLe h0 ma/\((rpQ q).R ma J (uP l 0 1 m)/\m<=l.length/\q<=(4*k+9)*m+1),[(0,vl),(2,vP b2 0),(3,vP b3 0),(4,vI ↑m)],[.var b3 29 J,.var b2 29 bj],ma,l.length-m)) (0,1,ao,h0) ?_ ?_
 · exact⟨mle,am,by omega,by omega⟩
 rintro⟨m,q,J,ma⟩ ⟨bl,C,cc,cb⟩
 refine xC ?_;have bf:=Nat.mul_le_mul_left (4*k+9) (show m<=1000 by omega);refine gc9 (λan=>?_) λan=>?_
 ·
  refine go5 ?_;refine zJ 16 _ [(12,(5,31,[.bool false,.slice none 0 0,.slice none 0 0,.bool false,.slice none 0 0,.slice none 0 0,.bool false,.slice none 0 0,.slice none 0 0])),(13,(6,31,[.bool false,.slice none 0 0,.slice none 0 0,.bool false,.slice none 0 0,.slice none 0 0,.bool false,.slice none 0 0,.slice none 0 0]))] [(0,.q),(1,.q),(2,.q),(3,.q),(4,.q),(5,.q),(6,.q),(7,.q),(8,.q),(9,.q),(10,.q),(11,.q),(12,.a),(13,.a),(14,.c),(15,.c)] yA (jS.cons I I (qA yU I I) (jS.cons I I (qA yU I I) jS.nil)) (wP zor) (qD I I (qD I I kW)) (λr hr=>hr) (go2 ?_);refine wX I (xI zT m underlying35 zL rl) λca be=>(wX I (xA zL be) λbz bd=>(go4 ?_));refine w_q I (λh' L' hh hR=>qH underlying35 I (rl.up.mono hh)) I (wC I (λ_ _=>wF I I oM oM) I (wX I (xI zT ((m+1)%l.length) underlying35 zL rl (hi:=by exact Nat.mod_lt _ oM)) λbx bc=>(wX I (xA zL bc) λbw bb=>?_)));refine w_a I I (λb5=>?_);have aq:(tPt 1).R ma [.bool false,.slice none 0 0,.slice none 0 0,.bool false,.slice none 0 0,.slice none 0 0,.bool false,.slice none 0 0,.slice none 0 0] zT:=(xW (yN dC));refine w_a I I (λb6=>?_);have ap:(tPt 1).R ma [.bool false,.slice none 0 0,.slice none 0 0,.bool false,.slice none 0 0,.slice none 0 0,.bool false,.slice none 0 0,.slice none 0 0] zT:=(xW (yN dC));refine w_c I ?_;have ak:=(Le.t (Le.q (l:=k+1) oM)).R aq;refine aY (A:=[_]) (uB sizeOf31 pH ak (bd.le (Le.t (Le.q (l:=k+1) oM)))) (wH zov) λbi H=>?_;refine w_c I ?_;have Z:=(Le.t (Le.q (l:=k+1) oM)).R ap;refine aY (A:=[]) (uB sizeOf31 pH Z (bb.le (Le.t (Le.q (l:=k+1) oM)))) (wH zov) λbh D=>(go2 ?_);refine zJ 13 _ [] [(0,.q),(1,.q),(2,.q),(3,.q),(4,.q),(6,.q),(7,.q),(8,.q),(9,.q),(5,.c),(10,.c),(11,.c),(12,.c),(13,.t)] yA nX (wP zor) nX (λr hr=>hr) (wX I (xB yD pH C) λbv ba=>(go1 ?_));refine wX I (xB yD (Pc.tx pH) H) λbu az=>(go1 ?_);refine wX I (xB yD (Pc.ty pH) D) λbt ay=>(go1 ?_);refine wX I (xB yD (Pc.tx pH) D) λbr ax=>(go1 ?_);refine wX I (xB yD (Pc.ty pH) H) λbq aw=>?_;refine w_c I (sC (ev2 I I) call53 (λw hs=>qT hs az ay oM) λbs h1 cg ai=>?_);replace ai:=Rp.Is.le ai (Le.q (l:=2*k+2) oM);refine w_c I (sC (ev2 I I) call53 (λw hs=>qT hs ax.up aw.up oM) λbp h2 cf ah=>?_);replace ah:=Rp.Is.le ah (Le.q (l:=2*k+2) oM);refine w_c I (sC (ev2 I I) call55 (λw hs=>fY hs ai.up ah oM) λbo h3 ce ae=>?_);replace ae:=Rp.Is.le ae (Le.q (l:=4*k+5) oM);refine w_c I (sC (ev2 I I) call45 (λw hs=>rV hs ba.up ae oM) λbn h4 cd ad=>?_);replace ad:=Rp.Is.le ad (Le.q (l:=4*k+q+6) oM);have U:=(Le.q (l:=4*k+q+6) oM).R C;refine yK (A:=[_,_]) I (uB sizeOf29 pH U ad) λaj ac=>(go8 ?_);refine xO (A:=[]) (xO (A:=[]) ?_);refine gqL ((m+1),(q+(4*k+9)),aj,h4) ?_ ?_
  · exact⟨mle,(Rp.castR (Le.R (Le.q (l:=q+(4*k+9)) oM) ac) I),by omega,by rw[Nat.mul_succ];omega⟩
  omega
 have em:m=l.length:=by omega
 have bf:=Nat.mul_le_mul_left (4*k+9) (show m<=1000 by omega);refine go7 ?_;refine lX (xB yD pH C) λbm av=>?_;have O:=(Le.q (l:=q+1) oM).R au;refine yI (A:=[_]) (uB sizeOf29 pH O (av.le (Le.q (l:=q+1) oM))) λbg ab=>(go3 ?_);refine uJ (fV (t:=2) yD mh1 I ab) ?_;intro bk M aa;refine yW (λE S=>yE I M E S) ?_;exact(Rp.Is.cast (Rp.Is.le aa (Le.q (l:=1000000000) oM)) (by rw[em]))
theorem tK{k:Nat}{va:Value}{a:Tq}(ra:(tPt k).Is h0 va a){vb:Value}{b:Tq}(rb:(tPt k).Is h0 vb b){vc:Value}{c:Tq}(rc:(tPt k).Is h0 vc c)(hcd0:k<=10000):
 Calls Tryz.prog 186 #[va,vb,vc] w0 (Ret w0 h0 (λ_ r=>r=vI (orZ (pr a 0 1) (pr b 0 1) (pr c 0 1)))):=by
 refine cb3 13 va vb vc func186 hs ?_;refine go2 ?_;refine nB ra λb3 an O=>(nB rb λb4 am M=>(nB rc λb5 ak J=>(go5 ?_)));refine lX (xB zL pH O) λv7 r7=>(lX (xB zL pH M) λv8 r8=>(lX (xB zL pH J) λv9 r9=>(zK (zO (ρ:=(tPt (k+1))) (m:=3) (xs:=[a,b,c]) (ps':=[(0,_),(1,_),(2,_)]) underlying35 yU I I I (xW (yN oM)) e6z (zG I (Pc.arr (Pc.here _) zT 0 dC) (r7.le (Le.t (Le.q (l:=k+1) oM))) (zG I (Pc.arr (Pc.here _) zT 1 dC) (r8.le (Le.t (Le.q (l:=k+1) oM))) (zG I (Pc.arr (Pc.here _) zT 2 dC) (r9.le (Le.t (Le.q (l:=k+1) oM))) zR))) zol nP) I I I ?_)))
 rintro ad ae ⟨ab,rfl,D⟩
 refine yC (A:=[]) (ρ:=(tPt (k+1))) D ?_;intro h1 aj C;refine cL (ev1 I) call131 (λw hs=>pM hs C oM (by first|omega|exact(by decide:3<=1000))) λac h2 ai Z=>(cL (ev1 I) call48 (λw hs=>qC hs Z dC) λH h3 ah U=>?_);obtain rfl:H=vI (yV (uP [a,b,c] 0 1 [a,b,c].length)):=U;have aa:=xG (uP [a,b,c] 0 1 [a,b,c].length);refine go4 ?_;refine zC I I ?_;exact congrArg vI (yAN a b c)
theorem oK{k:Nat}{va:Value}{a:Tq}(ra:(tPt k).Is h0 va a){vb:Value}{b:Tq}(rb:(tPt k).Is h0 vb b){vp:Value}{p:Tq}(rp:(tPt k).Is h0 vp p)(hcd0:k<=10000):
 Calls Tryz.prog 184 #[va,vb,vp] w0 (Ret w0 h0 (λ_ r=>r=vB (onS (pr a 0 1) (pr b 0 1) (pr p 0 1)))):=by
 refine cb3 29 va vb vp func184 hs ?_;refine go2 ?_;refine nB ra λb3 bj aa=>(nB rb λb4 bi Z=>(nB rp λb5 am ae=>(go3 ?_)));refine jI (ι:=List Value×List Value×Mem) (λ(D,C,m1)=>MLe h0 m1/\((tPt k).R m1 D (loT a b 0 1)/\(tPt k).R m1 C (hiT a b 0 1)/\True)) (λ(D,C,m1)=>[(3,vP b3 0),(4,vP b4 0),(5,vP b5 0)]) (λ(D,C,m1)=>[.var b5 31 am,.var b4 31 C,.var b3 31 D]) (λ(D,C,m1)=>m1) ?_ ?_
 ·
  refine go2 ?_;refine lX (xB zL pH Z) λv7 r7=>(lX (xB zL pH aa) λv8 r8=>(cL (ev2 I I) call200 (λw hs=>pL hs r7 r8 oM) λv9 h1 ai r9=>?_));obtain rfl:v9=vB (lx (pr b 0 1) (pr a 0 1)):=r9;refine gc2 (λU=>?_) λU=>?_
  ·
   refine go1 ?_;refine lX (xB zL pH Z) λbt bg=>(lX (xB zL pH aa) λbs bf=>(yI (A:=[_,_]) (uB sizeOf31 pH aa bg) λak ad=>(yI (A:=[_]) (uB sizeOf31 pH Z bf) λaj ac=>(go1 ?_))));refine zS (ak,aj,h1) ?_ e3z I I;refine⟨ai,?_⟩;refine⟨(Rp.castR ad (if_pos U).symm),(Rp.castR ac (if_pos U).symm),?_⟩
   trivial
  refine go1 ?_;refine zS (bj,bi,h1) ?_ e3z I I;refine⟨ai,?_⟩;refine⟨(Rp.castR aa.up (if_neg U).symm),(Rp.castR Z.up (if_neg U).symm),?_⟩
  trivial
 rintro⟨D,C,m1⟩ ⟨bk,ab⟩
 refine xC ?_;obtain⟨J,H,ab⟩:=ab;refine go2 ?_;refine lX (xB zL pH J) λbr be=>(lX (xB zL pH H) λbq bd=>(lX (xB zL pH ae) λbp bc=>(cL (ev3 I I I) call186 (λw hs=>tK hs be bd bc oM) λau h1 ai bb=>?_)));obtain rfl:au=vI (orZ (pr (loT a b 0 1) 0 1) (pr (hiT a b 0 1) 0 1) (pr p 0 1)):=bb;have bh:=tJ (pr (loT a b 0 1) 0 1) (pr (hiT a b 0 1) 0 1) (pr p 0 1);refine go1 ?_;refine uY (ι:=Mem) 6 (λm_=>MLe h1 m_) (λ_=>[(22,vB (((orZ (pr (loT a b 0 1) 0 1) (pr (hiT a b 0 1) 0 1) (pr p 0 1))=(0:Int))/\(¬(lx (pr p 0 1) (pr (loT a b 0 1) 0 1))))),(4,vP b4 0),(5,vP b5 0)]) (λ_=>[.var b5 31 am,.var b4 31 C,.var b3 31 D]) (λm_=>m_) ?_ ?_
 ·
  refine zW ((orZ (pr (loT a b 0 1) 0 1) (pr (hiT a b 0 1) 0 1) (pr p 0 1))=(0:Int)) (λO=>?_) (λO=>?_)
  ·
   refine gT O I (go1 ?_);refine lX (xB zL pH ae) λbo ba=>(go1 ?_);refine lX (xB zL pH J) λbn az=>(go1 ?_);refine cL (ev2 I I) call200 (λw hs=>pL hs ba az oM) λar h2 ah ay=>?_;obtain rfl:ar=vB (lx (pr p 0 1) (pr (loT a b 0 1) 0 1)):=ay;refine go4 ?_;refine zS h2 ah ⟨?_,I,I,trivial⟩ I I;exact congrArg some (xH O)
  refine gF O I (go6 ?_);refine zS h1 (MLe.refl _) ⟨?_,I,I,trivial⟩ I I;exact congrArg some (xJ O)
 intro M ao;refine tZ ?_;refine uY (ι:=Mem) 6 (λm_=>MLe M m_) (λ_=>[(28,vB ((((orZ (pr (loT a b 0 1) 0 1) (pr (hiT a b 0 1) 0 1) (pr p 0 1))=(0:Int))/\(¬(lx (pr p 0 1) (pr (loT a b 0 1) 0 1))))/\(¬(lx (pr (hiT a b 0 1) 0 1) (pr p 0 1)))))]) (λ_=>[.var b5 31 am,.var b4 31 C,.var b3 31 D]) (λm_=>m_) ?_ ?_
 ·
  refine zW (((orZ (pr (loT a b 0 1) 0 1) (pr (hiT a b 0 1) 0 1) (pr p 0 1))=(0:Int))/\(¬(lx (pr p 0 1) (pr (loT a b 0 1) 0 1)))) (λO=>?_) (λO=>?_)
  ·
   refine gT O I (go1 ?_);refine lX (xB zL pH H) λbm ax=>(go1 ?_);refine lX (xB zL pH ae) λbl aw=>(go1 ?_);refine cL (ev2 I I) call200 (λw hs=>pL hs ax aw oM) λaq h2 ah av=>?_;obtain rfl:aq=vB (lx (pr (hiT a b 0 1) 0 1) (pr p 0 1)):=av;refine go4 ?_;refine zS h2 ah ⟨?_,trivial⟩ I I;exact congrArg some (xH O)
  refine gF O I (go6 ?_);refine zS M (MLe.refl _) ⟨?_,trivial⟩ I I;exact congrArg some (xJ O)
 intro ap an;refine tZ ?_;refine go4 ?_;refine zC I I ?_
 first|exact kD (by rw[<-yG7];grind)|exact(xT (by rw[<-yG7];grind)).symm|exact(yM (by rw[<-yG7];grind)).symm
theorem zTH{k:Nat}{va:Value}{a:Tq}(ra:(tPt k).Is h0 va a){vb:Value}{b:Tq}(rb:(tPt k).Is h0 vb b){vc:Value}{c:Tq}(rc:(tPt k).Is h0 vc c){vd:Value}{d:Tq}(rd:(tPt k).Is h0 vd d)(hcd0:k<=9000):
 Calls Tryz.prog 201 #[va,vb,vc,vd] w0 (Ret w0 h0 (λ_ r=>r=vI (zDA (pr a 0 1) (pr b 0 1) (pr c 0 1) (pr d 0 1)))):=by
 refine jK (n:=72) (e:=[(0,va),(1,vb),(2,vc),(3,vd)]) (vs:=[va,vb,vc,vd]) func201 rfl rfl (bL rfl) hs e4z (go2 ?_);refine nB ra λb4 ae ay=>(nB rb λb5 ad ax=>(nB rc λb6 ac aq=>(nB rd λb7 ab ap=>(go4 ?_))));refine zJ 6 _ [(2,(9,31,[.bool false,.slice none 0 0,.slice none 0 0,.bool false,.slice none 0 0,.slice none 0 0,.bool false,.slice none 0 0,.slice none 0 0])),(3,(10,31,[.bool false,.slice none 0 0,.slice none 0 0,.bool false,.slice none 0 0,.slice none 0 0,.bool false,.slice none 0 0,.slice none 0 0]))] [(0,.q),(1,.q),(2,.a),(3,.a),(4,.c),(5,.c)] yA (jS.cons I I (qA yU I I) (jS.cons I I (qA yU I I) jS.nil)) zor (qD I I (qD I I kW)) (λr hr=>hr) (wX I (xB zL pH ay) λfm ec=>(wX I (xB zL pH ax) λfl eb=>?_));refine w_a I I (λb9=>?_);have ce:(tPt (k+1)).R h0 [.bool false,.slice none 0 0,.slice none 0 0,.bool false,.slice none 0 0,.slice none 0 0,.bool false,.slice none 0 0,.slice none 0 0] zT:=(xW (yN oM));refine w_a I I (λO=>?_);have bk:(tPt (k+1)).R h0 [.bool false,.slice none 0 0,.slice none 0 0,.bool false,.slice none 0 0,.slice none 0 0,.bool false,.slice none 0 0,.slice none 0 0] zT:=(xW (yN oM));refine w_c I (aY (A:=[_]) (uB sizeOf31 pH ce (ec.le (Le.t (Le.q (l:=k+1) oM)))) (wH zov) λbg ai=>?_);refine w_c I (aY (A:=[]) (uB sizeOf31 pH bk (eb.le (Le.t (Le.q (l:=k+1) oM)))) (wH zov) λaw ah=>(go2 ?_));refine jI (ι:=List Value×Mem) (λ(C,m1)=>MLe h0 m1/\((tPt (k+1)).R m1 C (mxT a c 0 1)/\True)) (λ(C,m1)=>[(4,vP b4 0),(5,vP b5 0),(6,vP b6 0),(7,vP b7 0),(9,vP b9 0),(10,vP O 0)]) (λ(C,m1)=>[.var O 31 aw,.var b9 31 C,.var b7 31 ab,.var b6 31 ac,.var b5 31 ad,.var b4 31 ae]) (λ(C,m1)=>m1) ?_ ?_
 ·
  refine go2 ?_;refine lX (xB zL pH ai) λfk ea=>(lX (xB zL pH aq) λfj dz=>(cL (ev2 I I) call200 (λw hs=>pL hs ea (dz.le (Le.t (Le.q (l:=k+1) oM))) oM) λcd h1 an dy=>?_));obtain rfl:cd=vB (lx (pr a 0 1) (pr c 0 1)):=dy;refine gc2 (λav=>?_) λav=>?_
  ·
   refine go1 ?_;refine lX (xB zL pH aq) λfi dx=>(yI (A:=[_]) (uB sizeOf31 pH ai (dx.le (Le.t (Le.q (l:=k+1) oM)))) λbf ba=>(go1 ?_));refine zS (bf,h1) ?_ e6z I I;refine⟨an,?_⟩;refine⟨(Rp.castR ba (if_pos av).symm),?_⟩
   trivial
  refine go1 ?_;refine zS (bg,h1) ?_ e6z I I;refine⟨an,?_⟩;refine⟨(Rp.castR ai.up (if_neg av).symm),?_⟩
  trivial
 rintro⟨C,m1⟩ ⟨ee,aa⟩
 refine xC ?_;obtain⟨H,aa⟩:=aa;refine jI (ι:=List Value×Mem) (λ(D,m2)=>MLe m1 m2/\((tPt (k+1)).R m2 D (mnT b d 0 1)/\True)) (λ(D,m2)=>[(4,vP b4 0),(5,vP b5 0),(6,vP b6 0),(7,vP b7 0),(9,vP b9 0),(10,vP O 0)]) (λ(D,m2)=>[.var O 31 D,.var b9 31 C,.var b7 31 ab,.var b6 31 ac,.var b5 31 ad,.var b4 31 ae]) (λ(D,m2)=>m2) ?_ ?_
 ·
  refine go2 ?_;refine lX (xB zL pH ap) λfh dw=>(lX (xB zL pH ah) λfg dv=>(cL (ev2 I I) call200 (λw hs=>pL hs (dw.le (Le.t (Le.q (l:=k+1) oM))) dv oM) λcc h1 an du=>?_));obtain rfl:cc=vB (lx (pr d 0 1) (pr b 0 1)):=du;refine gc2 (λau=>?_) λau=>?_
  ·
   refine go1 ?_;refine lX (xB zL pH ap) λff dt=>(yI (A:=[]) (uB sizeOf31 pH ah (dt.le (Le.t (Le.q (l:=k+1) oM)))) λbe az=>(go1 ?_));refine zS (be,h1) ?_ e6z I I;refine⟨an,?_⟩;refine⟨(Rp.castR az (if_pos au).symm),?_⟩
   trivial
  refine go1 ?_;refine zS (aw,h1) ?_ e6z I I;refine⟨an,?_⟩;refine⟨(Rp.castR ah.up (if_neg au).symm),?_⟩
  trivial
 rintro⟨D,m2⟩ ⟨ed,aa⟩
 refine xC ?_;obtain⟨ao,aa⟩:=aa;refine go4 ?_;refine lX (xB zL pH ao) λfe dr=>(lX (xB zL pH H) λfd dq=>(cL (ev2 I I) call200 (λw hs=>pL hs dr dq oM) λcb h1 an dp=>?_));obtain rfl:cb=vB (lx (pr (mnT b d 0 1) 0 1) (pr (mxT a c 0 1) 0 1)):=dp;refine gc3 (λbp=>?_) λbp=>?_
 ·
  refine go8 ?_;refine zC I I ?_;refine congrArg vI ?_;rw[<-zF1 I I];unfold zF2;grind
 refine go2 ?_;refine lX (xB zL pH H) λfc dn=>(lX (xB zL pH ao) λfb dm=>(cL (ev2 I I) call174 (λw hs=>jE hs dn dm oM) λca h2 fp dl=>?_));obtain rfl:ca=vB ((pr (mxT a c 0 1) 0 1)=(pr (mnT b d 0 1) 0 1)):=dl;refine gc4 (λbo=>?_) λbo=>?_
 ·
  refine go8 ?_;refine zC I I ?_;refine congrArg vI ?_;rw[<-zF1 I I];unfold zF2;grind
 refine go2 ?_;refine lX (xB zL pH H) λfa dk=>(lX (xB zL pH ay) λez dj=>(cL (ev2 I I) call174 (λw hs=>jE hs dk (dj.le (Le.t (Le.q (l:=k+1) oM))) oM) λbz h3 fo di=>?_));obtain rfl:bz=vB ((pr (mxT a c 0 1) 0 1)=(pr a 0 1)):=di;refine uY (ι:=Mem) 5 (λM=>MLe h3 M) (λ_=>[(38,vB (((pr (mxT a c 0 1) 0 1)=(pr a 0 1))\/((pr (mxT a c 0 1) 0 1)=(pr b 0 1)))),(4,vP b4 0),(5,vP b5 0),(6,vP b6 0),(7,vP b7 0),(9,vP b9 0)]) (λ_=>[.var O 31 D,.var b9 31 C,.var b7 31 ab,.var b6 31 ac,.var b5 31 ad,.var b4 31 ae]) (λM=>M) ?_ ?_
 ·
  refine zW ((pr (mxT a c 0 1) 0 1)=(pr a 0 1)) (λJ=>?_) (λJ=>?_)
  ·
   refine gT J I (go5 ?_);refine zS h3 (MLe.refl _) ⟨?_,I,I,I,I,I,trivial⟩ I I;exact congrArg some (vS J)
  refine gF J I (go1 ?_);refine lX (xB zL pH H) λey dh=>(go1 ?_);refine lX (xB zL pH ax) λew df=>(go1 ?_);refine cL (ev2 I I) call174 (λw hs=>jE hs dh (df.le (Le.t (Le.q (l:=k+1) oM))) oM) λbx h4 Z de=>?_;obtain rfl:bx=vB ((pr (mxT a c 0 1) 0 1)=(pr b 0 1)):=de;refine go2 ?_;refine zS h4 Z ⟨?_,I,I,I,I,I,trivial⟩ I I;exact congrArg some (vT J)
 intro am bj;refine tZ ?_;refine uY (ι:=Mem) 10 (λM=>MLe am M) (λ_=>[(48,vB ((((pr (mxT a c 0 1) 0 1)=(pr a 0 1))\/((pr (mxT a c 0 1) 0 1)=(pr b 0 1)))/\(((pr (mxT a c 0 1) 0 1)=(pr c 0 1))\/((pr (mxT a c 0 1) 0 1)=(pr d 0 1))))),(4,vP b4 0),(5,vP b5 0),(6,vP b6 0),(7,vP b7 0),(9,vP b9 0)]) (λ_=>[.var O 31 D,.var b9 31 C,.var b7 31 ab,.var b6 31 ac,.var b5 31 ad,.var b4 31 ae]) (λM=>M) ?_ ?_
 ·
  refine zW (((pr (mxT a c 0 1) 0 1)=(pr a 0 1))\/((pr (mxT a c 0 1) 0 1)=(pr b 0 1))) (λJ=>?_) (λJ=>?_)
  ·
   refine gT J I (go1 ?_);refine lX (xB zL pH H) λev dd=>(go1 ?_);refine lX (xB zL pH aq) λeu dc=>(go1 ?_);refine cL (ev2 I I) call174 (λw hs=>jE hs dd (dc.le (Le.t (Le.q (l:=k+1) oM))) oM) λbw h4 Z db=>?_;obtain rfl:bw=vB ((pr (mxT a c 0 1) 0 1)=(pr c 0 1)):=db;refine uY (ι:=Mem) 5 (λM=>MLe h4 M) (λ_=>[(47,vB (((pr (mxT a c 0 1) 0 1)=(pr c 0 1))\/((pr (mxT a c 0 1) 0 1)=(pr d 0 1)))),(4,vP b4 0),(5,vP b5 0),(6,vP b6 0),(7,vP b7 0),(9,vP b9 0),(39,.bool true)]) (λ_=>[.var O 31 D,.var b9 31 C,.var b7 31 ab,.var b6 31 ac,.var b5 31 ad,.var b4 31 ae]) (λM=>M) ?_ ?_
   ·
    refine zW ((pr (mxT a c 0 1) 0 1)=(pr c 0 1)) (λJ=>?_) (λJ=>?_)
    ·
     refine go1 ?_;refine gT J I (go6 ?_);refine zS h4 (MLe.refl _) ⟨?_,I,I,I,I,I,I,trivial⟩ I I;exact congrArg some (vS J)
    refine go1 ?_;refine gF J I (go1 ?_);refine lX (xB zL pH H) λes da=>(go1 ?_);refine lX (xB zL pH ap) λer cz=>(go1 ?_);refine cL (ev2 I I) call174 (λw hs=>jE hs da (cz.le (Le.t (Le.q (l:=k+1) oM))) oM) λbv h5 bd cy=>?_;obtain rfl:bv=vB ((pr (mxT a c 0 1) 0 1)=(pr d 0 1)):=cy;refine go3 ?_;refine zS h5 bd ⟨?_,I,I,I,I,I,I,trivial⟩ I I;exact congrArg some (vT J)
   intro ar aj;refine tZ ?_;refine go2 ?_;refine zS ar (Z.trans aj) ⟨?_,I,I,I,I,I,trivial⟩ I I;exact congrArg some (xH J)
  refine gF J I (uK ?_);refine zS am (MLe.refl _) ⟨?_,I,I,I,I,I,trivial⟩ I I;exact congrArg some (xJ J)
 intro ak bi;refine tZ ?_;refine uY (ι:=Mem) 6 (λM=>MLe ak M) (λ_=>[(54,vB (((((pr (mxT a c 0 1) 0 1)=(pr a 0 1))\/((pr (mxT a c 0 1) 0 1)=(pr b 0 1)))/\(((pr (mxT a c 0 1) 0 1)=(pr c 0 1))\/((pr (mxT a c 0 1) 0 1)=(pr d 0 1))))/\(onS (pr a 0 1) (pr b 0 1) (pr (mxT a c 0 1) 0 1)))),(4,vP b4 0),(5,vP b5 0),(6,vP b6 0),(7,vP b7 0),(9,vP b9 0)]) (λ_=>[.var O 31 D,.var b9 31 C,.var b7 31 ab,.var b6 31 ac,.var b5 31 ad,.var b4 31 ae]) (λM=>M) ?_ ?_
 ·
  refine zW ((((pr (mxT a c 0 1) 0 1)=(pr a 0 1))\/((pr (mxT a c 0 1) 0 1)=(pr b 0 1)))/\(((pr (mxT a c 0 1) 0 1)=(pr c 0 1))\/((pr (mxT a c 0 1) 0 1)=(pr d 0 1)))) (λJ=>?_) (λJ=>?_)
  ·
   refine gT J I (go1 ?_);refine lX (xB zL pH ay) λeq cw=>(go1 ?_);refine lX (xB zL pH ax) λep cv=>(go1 ?_);refine lX (xB zL pH H) λeo cu=>(go1 ?_);refine cL (ev3 I I I) call184 (λw hs=>oK hs (cw.le (Le.t (Le.q (l:=k+1) oM))) (cv.le (Le.t (Le.q (l:=k+1) oM))) cu oM) λbu h4 Z ct=>?_;obtain rfl:bu=vB (onS (pr a 0 1) (pr b 0 1) (pr (mxT a c 0 1) 0 1)):=ct;refine go2 ?_;refine zS h4 Z ⟨?_,I,I,I,I,I,trivial⟩ I I;exact congrArg some (xH J)
  refine gF J I (go6 ?_);refine zS ak (MLe.refl _) ⟨?_,I,I,I,I,I,trivial⟩ I I;exact congrArg some (xJ J)
 intro U bc;refine tZ ?_;refine uY (ι:=Mem) 6 (λM=>MLe U M) (λ_=>[(60,vB ((((((pr (mxT a c 0 1) 0 1)=(pr a 0 1))\/((pr (mxT a c 0 1) 0 1)=(pr b 0 1)))/\(((pr (mxT a c 0 1) 0 1)=(pr c 0 1))\/((pr (mxT a c 0 1) 0 1)=(pr d 0 1))))/\(onS (pr a 0 1) (pr b 0 1) (pr (mxT a c 0 1) 0 1)))/\(onS (pr c 0 1) (pr d 0 1) (pr (mxT a c 0 1) 0 1)))),(4,vP b4 0),(5,vP b5 0),(6,vP b6 0),(7,vP b7 0),(9,vP b9 0)]) (λ_=>[.var O 31 D,.var b9 31 C,.var b7 31 ab,.var b6 31 ac,.var b5 31 ad,.var b4 31 ae]) (λM=>M) ?_ ?_
 ·
  refine zW (((((pr (mxT a c 0 1) 0 1)=(pr a 0 1))\/((pr (mxT a c 0 1) 0 1)=(pr b 0 1)))/\(((pr (mxT a c 0 1) 0 1)=(pr c 0 1))\/((pr (mxT a c 0 1) 0 1)=(pr d 0 1))))/\(onS (pr a 0 1) (pr b 0 1) (pr (mxT a c 0 1) 0 1))) (λJ=>?_) (λJ=>?_)
  ·
   refine gT J I (go1 ?_);refine lX (xB zL pH aq) λen cq=>(go1 ?_);refine lX (xB zL pH ap) λem cp=>(go1 ?_);refine lX (xB zL pH H) λel co=>(go1 ?_);refine cL (ev3 I I I) call184 (λw hs=>oK hs (cq.le (Le.t (Le.q (l:=k+1) oM))) (cp.le (Le.t (Le.q (l:=k+1) oM))) co oM) λbt h4 Z cn=>?_;obtain rfl:bt=vB (onS (pr c 0 1) (pr d 0 1) (pr (mxT a c 0 1) 0 1)):=cn;refine go2 ?_;refine zS h4 Z ⟨?_,I,I,I,I,I,trivial⟩ I I;exact congrArg some (xH J)
  refine gF J I (go6 ?_);refine zS U (MLe.refl _) ⟨?_,I,I,I,I,I,trivial⟩ I I;exact congrArg some (xJ J)
 intro bl bb;refine tZ ?_;refine gc3 (λbn=>?_) λbn=>?_
 ·
  refine go8 ?_;refine zC I I ?_;refine congrArg vI ?_;rw[<-zF1 I I];unfold zF2;grind
 refine go2 ?_;refine lX (xB zL pH ay) λek cm=>(lX (xB zL pH ax) λej cl=>(lX (xB zL pH H) λei ck=>(cL (ev3 I I I) call184 (λw hs=>oK hs (cm.le (Le.t (Le.q (l:=k+1) oM))) (cl.le (Le.t (Le.q (l:=k+1) oM))) ck oM) λbs h4 Z cj=>?_)));obtain rfl:bs=vB (onS (pr a 0 1) (pr b 0 1) (pr (mxT a c 0 1) 0 1)):=cj;refine uY (ι:=Mem) 6 (λM=>MLe h4 M) (λ_=>[(71,vB ((onS (pr a 0 1) (pr b 0 1) (pr (mxT a c 0 1) 0 1))/\(onS (pr c 0 1) (pr d 0 1) (pr (mxT a c 0 1) 0 1))))]) (λ_=>[.var O 31 D,.var b9 31 C,.var b7 31 ab,.var b6 31 ac,.var b5 31 ad,.var b4 31 ae]) (λM=>M) ?_ ?_
 ·
  refine zW (onS (pr a 0 1) (pr b 0 1) (pr (mxT a c 0 1) 0 1)) (λJ=>?_) (λJ=>?_)
  ·
   refine gT J I (go1 ?_);refine lX (xB zL pH aq) λeh ci=>(go1 ?_);refine lX (xB zL pH ap) λeg ch=>(go1 ?_);refine lX (xB zL pH H) λef cg=>(go1 ?_);refine cL (ev3 I I I) call184 (λw hs=>oK hs (ci.le (Le.t (Le.q (l:=k+1) oM))) (ch.le (Le.t (Le.q (l:=k+1) oM))) cg oM) λbr h5 bd cf=>?_;obtain rfl:br=vB (onS (pr c 0 1) (pr d 0 1) (pr (mxT a c 0 1) 0 1)):=cf;refine go2 ?_;refine zS h5 bd ⟨?_,trivial⟩ I I;exact congrArg some (xH J)
  refine gF J I (go6 ?_);refine zS h4 (MLe.refl _) ⟨?_,trivial⟩ I I;exact congrArg some (xJ J)
 intro bq bh;refine tZ ?_;refine gc3 (λbm=>?_) λbm=>?_
 ·
  refine go8 ?_;refine zC I I ?_;refine congrArg vI ?_;rw[<-zF1 I I];unfold zF2;grind
 refine go9 ?_;refine zC I I ?_;refine congrArg vI ?_;rw[<-zF1 I I];unfold zF2;grind
theorem zL2{k:Nat}{va:Value}{a:Tq}(ra:(tPt k).Is h0 va a){vb:Value}{b:Tq}(rb:(tPt k).Is h0 vb b){vc:Value}{c:Tq}(rc:(tPt k).Is h0 vc c){vd:Value}{d:Tq}(rd:(tPt k).Is h0 vd d)(hcd0:k<=10000):
 Calls Tryz.prog 202 #[va,vb,vc,vd] w0 (Ret w0 h0 (λ_ r=>r=vI (dB (pr a 0 1) (pr b 0 1) (pr c 0 1) (pr d 0 1)))):=by
 refine jK (n:=29) (e:=[(0,va),(1,vb),(2,vc),(3,vd)]) (vs:=[va,vb,vc,vd]) func202 rfl rfl (bL rfl) hs e4z (go2 ?_);refine nB ra λb4 ae Z=>(nB rb λb5 ad ai=>(nB rc λb6 ac U=>(nB rd λb7 ab ah=>(go6 ?_))));refine lX (xB zL pH Z) λv9 r9=>(lX (xB zL pH ai) λbp be=>(cL (ev2 I I) call174 (λw hs=>jE hs r9 be oM) λap h1 bq bd=>?_));obtain rfl:ap=vB ((pr a 0 1)=(pr b 0 1)):=bd;refine uY (ι:=Mem) 6 (λJ=>MLe h1 J) (λ_=>[(17,vB (((pr a 0 1)=(pr b 0 1))/\(onS (pr c 0 1) (pr d 0 1) (pr a 0 1)))),(4,vP b4 0),(5,vP b5 0),(6,vP b6 0),(7,vP b7 0)]) (λ_=>[.var b7 31 ab,.var b6 31 ac,.var b5 31 ad,.var b4 31 ae]) (λJ=>J) ?_ ?_
 ·
  refine zW ((pr a 0 1)=(pr b 0 1)) (λC=>?_) (λC=>?_)
  ·
   refine gT C I (go1 ?_);refine lX (xB zL pH U) λbo bc=>(go1 ?_);refine lX (xB zL pH ah) λbn bb=>(go1 ?_);refine lX (xB zL pH Z) λbm ba=>(go1 ?_);refine cL (ev3 I I I) call184 (λw hs=>oK hs bc bb ba oM) λao h2 aa az=>?_;obtain rfl:ao=vB (onS (pr c 0 1) (pr d 0 1) (pr a 0 1)):=az;refine go2 ?_;refine zS h2 aa ⟨?_,I,I,I,I,trivial⟩ I I;exact congrArg some (xH C)
  refine gF C I (go6 ?_);refine zS h1 (MLe.refl _) ⟨?_,I,I,I,I,trivial⟩ I I;exact congrArg some (xJ C)
 intro H ak;refine tZ ?_;refine uY (ι:=Mem) 11 (λJ=>MLe H J) (λ_=>[(28,vB ((((pr a 0 1)=(pr b 0 1))/\(onS (pr c 0 1) (pr d 0 1) (pr a 0 1)))\/(((pr c 0 1)=(pr d 0 1))/\(onS (pr a 0 1) (pr b 0 1) (pr c 0 1)))))]) (λ_=>[.var b7 31 ab,.var b6 31 ac,.var b5 31 ad,.var b4 31 ae]) (λJ=>J) ?_ ?_
 ·
  refine zW (((pr a 0 1)=(pr b 0 1))/\(onS (pr c 0 1) (pr d 0 1) (pr a 0 1))) (λC=>?_) (λC=>?_)
  ·
   refine gT C I (qI ?_);refine zS H (MLe.refl _) ⟨?_,trivial⟩ I I;exact congrArg some (vS C)
  refine gF C I (go1 ?_);refine lX (xB zL pH U) λbl ay=>(go1 ?_);refine lX (xB zL pH ah) λbk ax=>(go1 ?_);refine cL (ev2 I I) call174 (λw hs=>jE hs ay ax oM) λan h2 aa aw=>?_;obtain rfl:an=vB ((pr c 0 1)=(pr d 0 1)):=aw;refine uY (ι:=Mem) 6 (λJ=>MLe h2 J) (λ_=>[(27,vB (((pr c 0 1)=(pr d 0 1))/\(onS (pr a 0 1) (pr b 0 1) (pr c 0 1)))),(18,.bool false)]) (λ_=>[.var b7 31 ab,.var b6 31 ac,.var b5 31 ad,.var b4 31 ae]) (λJ=>J) ?_ ?_
  ·
   refine zW ((pr c 0 1)=(pr d 0 1)) (λC=>?_) (λC=>?_)
   ·
    refine go1 ?_;refine gT C I (go1 ?_);refine lX (xB zL pH Z) λbj av=>(go1 ?_);refine lX (xB zL pH ai) λbi au=>(go1 ?_);refine lX (xB zL pH U) λbh ar=>(go1 ?_);refine cL (ev3 I I I) call184 (λw hs=>oK hs av au ar oM) λam h3 bg aq=>?_;obtain rfl:am=vB (onS (pr a 0 1) (pr b 0 1) (pr c 0 1)):=aq;refine go3 ?_;refine zS h3 bg ⟨?_,I,trivial⟩ I I;exact congrArg some (xH C)
   refine go1 ?_;refine gF C I (go7 ?_);refine zS h2 (MLe.refl _) ⟨?_,I,trivial⟩ I I;exact congrArg some (xJ C)
  intro O D;refine tZ ?_;refine go2 ?_;refine zS O (aa.trans D) ⟨?_,trivial⟩ I I;exact congrArg some (vT C)
 intro bf aj;refine tZ ?_;refine gc2 (λM=>?_) λM=>?_
 ·
  refine go7 ?_;refine zC I I ?_;exact congrArg vI (if_pos M).symm
 refine go8 ?_;refine zC I I ?_;exact congrArg vI (if_neg M).symm
theorem zFH{k:Nat}{va:Value}{a:Tq}(ra:(tPt k).Is h0 va a){vb:Value}{b:Tq}(rb:(tPt k).Is h0 vb b){vc:Value}{c:Tq}(rc:(tPt k).Is h0 vc c){vd:Value}{d:Tq}(rd:(tPt k).Is h0 vd d)(hcd0:k<=5000):
 Calls Tryz.prog 175 #[va,vb,vc,vd] w0 (Ret w0 h0 (λ_ r=>r=vI (oA (pr a 0 1) (pr b 0 1) (pr c 0 1) (pr d 0 1)))):=by
 refine jK (n:=117) (e:=[(0,va),(1,vb),(2,vc),(3,vd)]) (vs:=[va,vb,vc,vd]) func175 rfl rfl (bL rfl) hs e4z (go2 ?_);refine nB ra λb4 kh cc=>(nB rb λb5 kg cb=>(nB rc λb6 kf ca=>(nB rd λb7 ke bz=>(go4 ?_))));refine zJ 8 _ [] [(0,.q),(2,.q),(4,.q),(6,.q),(1,.c),(3,.c),(5,.c),(7,.c),(8,.t),(9,.t),(10,.t),(11,.t)] yA nX (wP zor) nX (λr hr=>hr) (wX I (xB zL pH cc) λjw gk=>(wX I (xB zL pH cb) λju gh=>(wX I (xB zL pH ca) λjs gf=>(wX I (xB zL pH bz) λjq gc=>?_))));refine w_c I (sC (ev1 I) call185 (λw hs=>cX hs gk) λjv h1 kc gj=>?_);refine w_c I (sC (ev1 I) call185 (λw hs=>cX hs gh.up) λjt h2 kb gg=>?_);refine w_c I (sC (ev1 I) call185 (λw hs=>cX hs gf.up) λjr h3 ka ge=>?_);refine w_c I (sC (ev1 I) call185 (λw hs=>cX hs gc.up) λjp h4 jz gb=>?_);have bd:=(Le.t (Le.q (l:=k+1) oM)).R cc;refine yK (A:=[_,_,_]) I (uB sizeOf31 pH bd gj) λbp ad=>?_;have bc:=(Le.t (Le.q (l:=k+1) oM)).R cb;refine yK (A:=[_,_]) I (uB sizeOf31 pH bc gg) λbo ac=>?_;have bb:=(Le.t (Le.q (l:=k+1) oM)).R ca;refine yK (A:=[_]) I (uB sizeOf31 pH bb ge) λaz ab=>?_;have ba:=(Le.t (Le.q (l:=k+1) oM)).R bz;refine yK (A:=[]) I (uB sizeOf31 pH ba gb) λay aa=>(go2 ?_);refine jI (ι:=List Value×List Value×Mem) (λ(D,C,m1)=>MLe h4 m1/\((tPt (k+1)).R m1 D (loT (zZ a) (zZ b) 0 1)/\(tPt (k+1)).R m1 C (hiT (zZ a) (zZ b) 0 1)/\True)) (λ(D,C,m1)=>[(4,vP b4 0),(5,vP b5 0),(6,vP b6 0),(7,vP b7 0)]) (λ(D,C,m1)=>[.var b7 31 ay,.var b6 31 az,.var b5 31 C,.var b4 31 D]) (λ(D,C,m1)=>m1) ?_ ?_
 ·
  refine go2 ?_;refine lX (xB zL pH ac) λjo ga=>(lX (xB zL pH ad) λjn fz=>(cL (ev2 I I) call200 (λw hs=>pL hs ga fz oM) λdp h5 ap fy=>?_));obtain rfl:dp=vB (lx (pr (zZ b) 0 1) (pr (zZ a) 0 1)):=fy;refine gc2 (λaj=>?_) λaj=>?_
  ·
   refine go1 ?_;refine lX (xB zL pH ac) λjm fx=>(lX (xB zL pH ad) λjl fw=>(yI (A:=[_,_,_]) (uB sizeOf31 pH ad fx) λbn bh=>(yI (A:=[_,_]) (uB sizeOf31 pH ac fw) λbm bg=>(go1 ?_))));refine zS (bn,bm,h5) ?_ e4z I I;refine⟨ap,?_⟩;refine⟨(Rp.castR bh (if_pos aj).symm),(Rp.castR bg (if_pos aj).symm),?_⟩
   trivial
  refine go1 ?_;refine zS (bp,bo,h5) ?_ e4z I I;refine⟨ap,?_⟩;refine⟨(Rp.castR ad.up (if_neg aj).symm),(Rp.castR ac.up (if_neg aj).symm),?_⟩
  trivial
 rintro⟨D,C,m1⟩ ⟨hb,ah⟩
 refine xC ?_;obtain⟨Z,U,ah⟩:=ah;refine jI (ι:=List Value×List Value×Mem) (λ(J,H,m2)=>MLe m1 m2/\((tPt (k+1)).R m2 J (loT (zZ c) (zZ d) 0 1)/\(tPt (k+1)).R m2 H (hiT (zZ c) (zZ d) 0 1)/\True)) (λ(J,H,m2)=>[(4,vP b4 0),(5,vP b5 0),(6,vP b6 0),(7,vP b7 0)]) (λ(J,H,m2)=>[.var b7 31 H,.var b6 31 J,.var b5 31 C,.var b4 31 D]) (λ(J,H,m2)=>m2) ?_ ?_
 ·
  refine go2 ?_;refine lX (xB zL pH aa) λjk fv=>(lX (xB zL pH ab) λjj fu=>(cL (ev2 I I) call200 (λw hs=>pL hs fv fu oM) λdn h5 ap ft=>?_));obtain rfl:dn=vB (lx (pr (zZ d) 0 1) (pr (zZ c) 0 1)):=ft;refine gc2 (λai=>?_) λai=>?_
  ·
   refine go1 ?_;refine lX (xB zL pH aa) λji fs=>(lX (xB zL pH ab) λjh fr=>(yI (A:=[_]) (uB sizeOf31 pH ab fs) λbl bf=>(yI (A:=[]) (uB sizeOf31 pH aa fr) λbk be=>(go1 ?_))));refine zS (bl,bk,h5) ?_ e4z I I;refine⟨ap,?_⟩;refine⟨(Rp.castR bf (if_pos ai).symm),(Rp.castR be (if_pos ai).symm),?_⟩
   trivial
  refine go1 ?_;refine zS (az,ay,h5) ?_ e4z I I;refine⟨ap,?_⟩;refine⟨(Rp.castR ab.up (if_neg ai).symm),(Rp.castR aa.up (if_neg ai).symm),?_⟩
  trivial
 rintro⟨J,H,m2⟩ ⟨ha,ah⟩
 refine xC ?_;obtain⟨O,M,ah⟩:=ah;refine go3 ?_;refine lX (xB zL pH Z) λjg fq=>(lX (xB zL pH U) λjf fp=>(lX (xB zL pH O) λje fo=>(cL (ev3 I I I) call186 (λw hs=>tK hs fq fp fo oM) λdm h5 ap fm=>?_)));obtain rfl:dm=vI (orZ (pr (loT (zZ a) (zZ b) 0 1) 0 1) (pr (hiT (zZ a) (zZ b) 0 1) 0 1) (pr (loT (zZ c) (zZ d) 0 1) 0 1)):=fm;have gr:=tJ (pr (loT (zZ a) (zZ b) 0 1) 0 1) (pr (hiT (zZ a) (zZ b) 0 1) 0 1) (pr (loT (zZ c) (zZ d) 0 1) 0 1);refine go1 ?_;refine uY (ι:=Mem) 7 (λm_=>MLe h5 m_) (λ_=>[(40,vB (((orZ (pr (loT (zZ a) (zZ b) 0 1) 0 1) (pr (hiT (zZ a) (zZ b) 0 1) 0 1) (pr (loT (zZ c) (zZ d) 0 1) 0 1))=(0:Int))/\((orZ (pr (loT (zZ a) (zZ b) 0 1) 0 1) (pr (hiT (zZ a) (zZ b) 0 1) 0 1) (pr (hiT (zZ c) (zZ d) 0 1) 0 1))=(0:Int)))),(4,vP b4 0),(5,vP b5 0),(6,vP b6 0),(7,vP b7 0)]) (λ_=>[.var b7 31 H,.var b6 31 J,.var b5 31 C,.var b4 31 D]) (λm_=>m_) ?_ ?_
 ·
  refine zW ((orZ (pr (loT (zZ a) (zZ b) 0 1) 0 1) (pr (hiT (zZ a) (zZ b) 0 1) 0 1) (pr (loT (zZ c) (zZ d) 0 1) 0 1))=(0:Int)) (λhg=>?_) (λhg=>?_)
  ·
   refine gT hg I (go1 ?_);refine lX (xB zL pH Z) λjd fl=>(go1 ?_);refine lX (xB zL pH U) λjc fk=>(go1 ?_);refine lX (xB zL pH M) λjb fj=>(go1 ?_);refine cL (ev3 I I I) call186 (λw hs=>tK hs fl fk fj oM) λdl h6 ak fi=>?_;obtain rfl:dl=vI (orZ (pr (loT (zZ a) (zZ b) 0 1) 0 1) (pr (hiT (zZ a) (zZ b) 0 1) 0 1) (pr (hiT (zZ c) (zZ d) 0 1) 0 1)):=fi;have gq:=tJ (pr (loT (zZ a) (zZ b) 0 1) 0 1) (pr (hiT (zZ a) (zZ b) 0 1) 0 1) (pr (hiT (zZ c) (zZ d) 0 1) 0 1);refine go4 ?_;refine zS h6 ak ⟨?_,I,I,I,I,trivial⟩ I I;exact congrArg some (xH hg)
  refine gF hg I (go7 ?_);refine zS h5 (MLe.refl _) ⟨?_,I,I,I,I,trivial⟩ I I;exact congrArg some (xJ hg)
 intro aq cq;refine tZ ?_;refine uY (ι:=Mem) 7 (λm_=>MLe aq m_) (λ_=>[(47,vB ((((orZ (pr (loT (zZ a) (zZ b) 0 1) 0 1) (pr (hiT (zZ a) (zZ b) 0 1) 0 1) (pr (loT (zZ c) (zZ d) 0 1) 0 1))=(0:Int))/\((orZ (pr (loT (zZ a) (zZ b) 0 1) 0 1) (pr (hiT (zZ a) (zZ b) 0 1) 0 1) (pr (hiT (zZ c) (zZ d) 0 1) 0 1))=(0:Int)))/\((orZ (pr (loT (zZ c) (zZ d) 0 1) 0 1) (pr (hiT (zZ c) (zZ d) 0 1) 0 1) (pr (loT (zZ a) (zZ b) 0 1) 0 1))=(0:Int)))),(4,vP b4 0),(5,vP b5 0),(6,vP b6 0),(7,vP b7 0)]) (λ_=>[.var b7 31 H,.var b6 31 J,.var b5 31 C,.var b4 31 D]) (λm_=>m_) ?_ ?_
 ·
  refine zW (((orZ (pr (loT (zZ a) (zZ b) 0 1) 0 1) (pr (hiT (zZ a) (zZ b) 0 1) 0 1) (pr (loT (zZ c) (zZ d) 0 1) 0 1))=(0:Int))/\((orZ (pr (loT (zZ a) (zZ b) 0 1) 0 1) (pr (hiT (zZ a) (zZ b) 0 1) 0 1) (pr (hiT (zZ c) (zZ d) 0 1) 0 1))=(0:Int))) (λhg=>?_) (λhg=>?_)
  ·
   refine gT hg I (go1 ?_);refine lX (xB zL pH O) λja fh=>(go1 ?_);refine lX (xB zL pH M) λiz fg=>(go1 ?_);refine lX (xB zL pH Z) λiy ff=>(go1 ?_);refine cL (ev3 I I I) call186 (λw hs=>tK hs fh fg ff oM) λdk h6 ak fe=>?_;obtain rfl:dk=vI (orZ (pr (loT (zZ c) (zZ d) 0 1) 0 1) (pr (hiT (zZ c) (zZ d) 0 1) 0 1) (pr (loT (zZ a) (zZ b) 0 1) 0 1)):=fe;have go:=tJ (pr (loT (zZ c) (zZ d) 0 1) 0 1) (pr (hiT (zZ c) (zZ d) 0 1) 0 1) (pr (loT (zZ a) (zZ b) 0 1) 0 1);refine go4 ?_;refine zS h6 ak ⟨?_,I,I,I,I,trivial⟩ I I;exact congrArg some (xH hg)
  refine gF hg I (go7 ?_);refine zS aq (MLe.refl _) ⟨?_,I,I,I,I,trivial⟩ I I;exact congrArg some (xJ hg)
 intro am br;refine tZ ?_;refine uY (ι:=Mem) 7 (λm_=>MLe am m_) (λ_=>[(54,vB (((((orZ (pr (loT (zZ a) (zZ b) 0 1) 0 1) (pr (hiT (zZ a) (zZ b) 0 1) 0 1) (pr (loT (zZ c) (zZ d) 0 1) 0 1))=(0:Int))/\((orZ (pr (loT (zZ a) (zZ b) 0 1) 0 1) (pr (hiT (zZ a) (zZ b) 0 1) 0 1) (pr (hiT (zZ c) (zZ d) 0 1) 0 1))=(0:Int)))/\((orZ (pr (loT (zZ c) (zZ d) 0 1) 0 1) (pr (hiT (zZ c) (zZ d) 0 1) 0 1) (pr (loT (zZ a) (zZ b) 0 1) 0 1))=(0:Int)))/\((orZ (pr (loT (zZ c) (zZ d) 0 1) 0 1) (pr (hiT (zZ c) (zZ d) 0 1) 0 1) (pr (hiT (zZ a) (zZ b) 0 1) 0 1))=(0:Int)))),(4,vP b4 0),(5,vP b5 0),(6,vP b6 0),(7,vP b7 0)]) (λ_=>[.var b7 31 H,.var b6 31 J,.var b5 31 C,.var b4 31 D]) (λm_=>m_) ?_ ?_
 ·
  refine zW ((((orZ (pr (loT (zZ a) (zZ b) 0 1) 0 1) (pr (hiT (zZ a) (zZ b) 0 1) 0 1) (pr (loT (zZ c) (zZ d) 0 1) 0 1))=(0:Int))/\((orZ (pr (loT (zZ a) (zZ b) 0 1) 0 1) (pr (hiT (zZ a) (zZ b) 0 1) 0 1) (pr (hiT (zZ c) (zZ d) 0 1) 0 1))=(0:Int)))/\((orZ (pr (loT (zZ c) (zZ d) 0 1) 0 1) (pr (hiT (zZ c) (zZ d) 0 1) 0 1) (pr (loT (zZ a) (zZ b) 0 1) 0 1))=(0:Int))) (λhg=>?_) (λhg=>?_)
  ·
   refine gT hg I (go1 ?_);refine lX (xB zL pH O) λix fd=>(go1 ?_);refine lX (xB zL pH M) λiw fc=>(go1 ?_);refine lX (xB zL pH U) λiv fb=>(go1 ?_);refine cL (ev3 I I I) call186 (λw hs=>tK hs fd fc fb oM) λdj h6 ak fa=>?_;obtain rfl:dj=vI (orZ (pr (loT (zZ c) (zZ d) 0 1) 0 1) (pr (hiT (zZ c) (zZ d) 0 1) 0 1) (pr (hiT (zZ a) (zZ b) 0 1) 0 1)):=fa;have gn:=tJ (pr (loT (zZ c) (zZ d) 0 1) 0 1) (pr (hiT (zZ c) (zZ d) 0 1) 0 1) (pr (hiT (zZ a) (zZ b) 0 1) 0 1);refine go4 ?_;refine zS h6 ak ⟨?_,I,I,I,I,trivial⟩ I I;exact congrArg some (xH hg)
  refine gF hg I (go7 ?_);refine zS am (MLe.refl _) ⟨?_,I,I,I,I,trivial⟩ I I;exact congrArg some (xJ hg)
 intro cz bq;refine tZ ?_;refine gc2 (λcw=>?_) λcw=>?_
 ·
  refine go2 ?_;refine lX (xB zL pH Z) λiu ez=>(lX (xB zL pH U) λir ey=>(lX (xB zL pH O) λiq ew=>(lX (xB zL pH M) λip ev=>(cL (ev4 I I I I) call201 (λw hs=>zTH hs ez ey ew ev oM) λdi h6 ak eu=>?_))));obtain rfl:di=vI (zDA (pr (loT (zZ a) (zZ b) 0 1) 0 1) (pr (hiT (zZ a) (zZ b) 0 1) 0 1) (pr (loT (zZ c) (zZ d) 0 1) 0 1) (pr (hiT (zZ c) (zZ d) 0 1) 0 1)):=eu;refine go5 ?_;refine zC I I ?_;refine congrArg vI ?_;rw[<-s6 I I I I];unfold w4;grind
 refine go5 ?_;refine lX (xB zL pH Z) λio es=>(lX (xB zL pH U) λim er=>(cL (ev2 I I) call174 (λw hs=>jE hs es er oM) λdh h6 ak eq=>?_));obtain rfl:dh=vB ((pr (loT (zZ a) (zZ b) 0 1) 0 1)=(pr (hiT (zZ a) (zZ b) 0 1) 0 1)):=eq;refine uY (ι:=Mem) 5 (λm_=>MLe h6 m_) (λ_=>[(67,vB (((pr (loT (zZ a) (zZ b) 0 1) 0 1)=(pr (hiT (zZ a) (zZ b) 0 1) 0 1))\/((pr (loT (zZ c) (zZ d) 0 1) 0 1)=(pr (hiT (zZ c) (zZ d) 0 1) 0 1)))),(4,vP b4 0),(5,vP b5 0),(6,vP b6 0),(7,vP b7 0)]) (λ_=>[.var b7 31 H,.var b6 31 J,.var b5 31 C,.var b4 31 D]) (λm_=>m_) ?_ ?_
 ·
  refine zW ((pr (loT (zZ a) (zZ b) 0 1) 0 1)=(pr (hiT (zZ a) (zZ b) 0 1) 0 1)) (λhg=>?_) (λhg=>?_)
  ·
   refine gT hg I (go5 ?_);refine zS h6 (MLe.refl _) ⟨?_,I,I,I,I,trivial⟩ I I;exact congrArg some (vS hg)
  refine gF hg I (go1 ?_);refine lX (xB zL pH O) λil ep=>(go1 ?_);refine lX (xB zL pH M) λik eo=>(go1 ?_);refine cL (ev2 I I) call174 (λw hs=>jE hs ep eo oM) λdf h7 bj en=>?_;obtain rfl:df=vB ((pr (loT (zZ c) (zZ d) 0 1) 0 1)=(pr (hiT (zZ c) (zZ d) 0 1) 0 1)):=en;refine go2 ?_;refine zS h7 bj ⟨?_,I,I,I,I,trivial⟩ I I;exact congrArg some (vT hg)
 intro gm cp;refine tZ ?_;refine gc2 (λcv=>?_) λcv=>?_
 ·
  refine go2 ?_;refine lX (xB zL pH Z) λij em=>(lX (xB zL pH U) λii el=>(lX (xB zL pH O) λih ek=>(lX (xB zL pH M) λig ej=>(cL (ev4 I I I I) call202 (λw hs=>zL2 hs em el ek ej oM) λde h7 bj ei=>?_))));obtain rfl:de=vI (dB (pr (loT (zZ a) (zZ b) 0 1) 0 1) (pr (hiT (zZ a) (zZ b) 0 1) 0 1) (pr (loT (zZ c) (zZ d) 0 1) 0 1) (pr (hiT (zZ c) (zZ d) 0 1) 0 1)):=ei;refine go5 ?_;refine zC I I ?_;refine congrArg vI ?_;rw[<-s6 I I I I];unfold w4;grind
 refine go3 ?_;refine zJ 20 _ [] [(0,.q),(1,.q),(2,.q),(4,.q),(5,.q),(6,.q),(9,.q),(10,.q),(11,.q),(13,.q),(14,.q),(15,.q),(3,.c),(7,.c),(8,.q),(12,.c),(16,.c),(17,.q),(18,.q),(19,.q)] yA nX (wP zor) nX (λr hr=>hr) (wX I (xB zL pH Z) λie eh=>(wX I (xB zL pH U) λid eg=>(wX I (xB zL pH O) λic ef=>(wX I (xB zL pH Z) λib ed=>(wX I (xB zL pH U) λia ec=>(wX I (xB zL pH M) λhv eb=>(wX I (xB zL pH O) λhu dz=>(wX I (xB zL pH M) λhq dy=>(wX I (xB zL pH Z) λhp dx=>(wX I (xB zL pH O) λho dv=>(wX I (xB zL pH M) λhn du=>(wX I (xB zL pH U) λhm dt=>?_))))))))))));refine w_c I (sC (ev3 I I I) call186 (λw hs=>tK hs eh eg ef oM) λdd h7 bj ee=>?_);obtain rfl:dd=vI (orZ (pr (loT (zZ a) (zZ b) 0 1) 0 1) (pr (hiT (zZ a) (zZ b) 0 1) 0 1) (pr (loT (zZ c) (zZ d) 0 1) 0 1)):=ee;have aw:=tJ (pr (loT (zZ a) (zZ b) 0 1) 0 1) (pr (hiT (zZ a) (zZ b) 0 1) 0 1) (pr (loT (zZ c) (zZ d) 0 1) 0 1);refine w_c I (sC (ev3 I I I) call186 (λw hs=>tK hs ed.up ec.up eb.up oM) λdc h8 jy ea=>?_);obtain rfl:dc=vI (orZ (pr (loT (zZ a) (zZ b) 0 1) 0 1) (pr (hiT (zZ a) (zZ b) 0 1) 0 1) (pr (hiT (zZ c) (zZ d) 0 1) 0 1)):=ea;have av:=tJ (pr (loT (zZ a) (zZ b) 0 1) 0 1) (pr (hiT (zZ a) (zZ b) 0 1) 0 1) (pr (hiT (zZ c) (zZ d) 0 1) 0 1);refine wC I (λ_ _=>gJ I I (by have:=dO aw av;omega) (by have:=dO aw av;omega)) I ?_;refine w_c I (sC (ev3 I I I) call186 (λw hs=>tK hs dz.up dy.up dx.up oM) λdb h9 jx dw=>?_);obtain rfl:db=vI (orZ (pr (loT (zZ c) (zZ d) 0 1) 0 1) (pr (hiT (zZ c) (zZ d) 0 1) 0 1) (pr (loT (zZ a) (zZ b) 0 1) 0 1)):=dw;have au:=tJ (pr (loT (zZ c) (zZ d) 0 1) 0 1) (pr (hiT (zZ c) (zZ d) 0 1) 0 1) (pr (loT (zZ a) (zZ b) 0 1) 0 1);refine w_c I (sC (ev3 I I I) call186 (λw hs=>tK hs dv.up du.up dt.up oM) λda kd hj dr=>?_);obtain rfl:da=vI (orZ (pr (loT (zZ c) (zZ d) 0 1) 0 1) (pr (hiT (zZ c) (zZ d) 0 1) 0 1) (pr (hiT (zZ a) (zZ b) 0 1) 0 1)):=dr;have ar:=tJ (pr (loT (zZ c) (zZ d) 0 1) 0 1) (pr (hiT (zZ c) (zZ d) 0 1) 0 1) (pr (hiT (zZ a) (zZ b) 0 1) 0 1);refine wC I (λ_ _=>gJ I I (by have:=dO au ar;omega) (by have:=dO au ar;omega)) I (uK ?_);refine gU 4 97 (vB (((0:Int)<((orZ (pr (loT (zZ a) (zZ b) 0 1) 0 1) (pr (hiT (zZ a) (zZ b) 0 1) 0 1) (pr (loT (zZ c) (zZ d) 0 1) 0 1))*(orZ (pr (loT (zZ a) (zZ b) 0 1) 0 1) (pr (hiT (zZ a) (zZ b) 0 1) 0 1) (pr (hiT (zZ c) (zZ d) 0 1) 0 1))))\/((0:Int)<((orZ (pr (loT (zZ c) (zZ d) 0 1) 0 1) (pr (hiT (zZ c) (zZ d) 0 1) 0 1) (pr (loT (zZ a) (zZ b) 0 1) 0 1))*(orZ (pr (loT (zZ c) (zZ d) 0 1) 0 1) (pr (hiT (zZ c) (zZ d) 0 1) 0 1) (pr (hiT (zZ a) (zZ b) 0 1) 0 1)))))) ?_ ?_
 ·
  refine zW ((0:Int)<((orZ (pr (loT (zZ a) (zZ b) 0 1) 0 1) (pr (hiT (zZ a) (zZ b) 0 1) 0 1) (pr (loT (zZ c) (zZ d) 0 1) 0 1))*(orZ (pr (loT (zZ a) (zZ b) 0 1) 0 1) (pr (hiT (zZ a) (zZ b) 0 1) 0 1) (pr (hiT (zZ c) (zZ d) 0 1) 0 1)))) (λhg=>?_) (λhg=>?_)
  ·
   refine gT hg I (go4 ?_);refine gqU ?_;exact congrArg some (vS hg)
  refine gF hg I (go6 ?_);refine gqU ?_;exact congrArg some (vT hg)
 refine gc3 (λcu=>?_) λcu=>?_
 ·
  refine go8 ?_;refine zC I I ?_;refine congrArg vI ?_;rw[<-s6 I I I I];unfold w4;grind
 refine go2 ?_;refine lX (xB zL pH Z) λhl dq=>(lX (xB zL pH O) λgz cn=>(cL (ev2 I I) call174 (λw hs=>jE hs dq cn oM) λbx cy he cm=>?_));obtain rfl:bx=vB ((pr (loT (zZ a) (zZ b) 0 1) 0 1)=(pr (loT (zZ c) (zZ d) 0 1) 0 1)):=cm;refine uY (ι:=Mem) 5 (λm_=>MLe cy m_) (λ_=>[(106,vB (((pr (loT (zZ a) (zZ b) 0 1) 0 1)=(pr (loT (zZ c) (zZ d) 0 1) 0 1))\/((pr (loT (zZ a) (zZ b) 0 1) 0 1)=(pr (hiT (zZ c) (zZ d) 0 1) 0 1)))),(5,vP b5 0),(6,vP b6 0),(7,vP b7 0)]) (λ_=>[.var b7 31 H,.var b6 31 J,.var b5 31 C,.var b4 31 D]) (λm_=>m_) ?_ ?_
 ·
  refine zW ((pr (loT (zZ a) (zZ b) 0 1) 0 1)=(pr (loT (zZ c) (zZ d) 0 1) 0 1)) (λhg=>?_) (λhg=>?_)
  ·
   refine gT hg I (go5 ?_);refine zS cy (MLe.refl _) ⟨?_,I,I,I,trivial⟩ I I;exact congrArg some (vS hg)
  refine gF hg I (go1 ?_);refine lX (xB zL pH Z) λgy cl=>(go1 ?_);refine lX (xB zL pH M) λgx ck=>(go1 ?_);refine cL (ev2 I I) call174 (λw hs=>jE hs cl ck oM) λbw ax ae cj=>?_;obtain rfl:bw=vB ((pr (loT (zZ a) (zZ b) 0 1) 0 1)=(pr (hiT (zZ c) (zZ d) 0 1) 0 1)):=cj;refine go2 ?_;refine zS ax ae ⟨?_,I,I,I,trivial⟩ I I;exact congrArg some (vT hg)
 intro ao bt;refine tZ ?_;refine uY (ι:=Mem) 5 (λm_=>MLe ao m_) (λ_=>[(111,vB ((((pr (loT (zZ a) (zZ b) 0 1) 0 1)=(pr (loT (zZ c) (zZ d) 0 1) 0 1))\/((pr (loT (zZ a) (zZ b) 0 1) 0 1)=(pr (hiT (zZ c) (zZ d) 0 1) 0 1)))\/((pr (hiT (zZ a) (zZ b) 0 1) 0 1)=(pr (loT (zZ c) (zZ d) 0 1) 0 1)))),(5,vP b5 0),(7,vP b7 0)]) (λ_=>[.var b7 31 H,.var b6 31 J,.var b5 31 C,.var b4 31 D]) (λm_=>m_) ?_ ?_
 ·
  refine zW (((pr (loT (zZ a) (zZ b) 0 1) 0 1)=(pr (loT (zZ c) (zZ d) 0 1) 0 1))\/((pr (loT (zZ a) (zZ b) 0 1) 0 1)=(pr (hiT (zZ c) (zZ d) 0 1) 0 1))) (λhg=>?_) (λhg=>?_)
  ·
   refine gT hg I (go5 ?_);refine zS ao (MLe.refl _) ⟨?_,I,I,trivial⟩ I I;exact congrArg some (vS hg)
  refine gF hg I (go1 ?_);refine lX (xB zL pH U) λgw ci=>(go1 ?_);refine lX (xB zL pH O) λgu ch=>(go1 ?_);refine cL (ev2 I I) call174 (λw hs=>jE hs ci ch oM) λbv ax ae cg=>?_;obtain rfl:bv=vB ((pr (hiT (zZ a) (zZ b) 0 1) 0 1)=(pr (loT (zZ c) (zZ d) 0 1) 0 1)):=cg;refine go2 ?_;refine zS ax ae ⟨?_,I,I,trivial⟩ I I;exact congrArg some (vT hg)
 intro an bs;refine tZ ?_;refine uY (ι:=Mem) 5 (λm_=>MLe an m_) (λ_=>[(116,vB (((((pr (loT (zZ a) (zZ b) 0 1) 0 1)=(pr (loT (zZ c) (zZ d) 0 1) 0 1))\/((pr (loT (zZ a) (zZ b) 0 1) 0 1)=(pr (hiT (zZ c) (zZ d) 0 1) 0 1)))\/((pr (hiT (zZ a) (zZ b) 0 1) 0 1)=(pr (loT (zZ c) (zZ d) 0 1) 0 1)))\/((pr (hiT (zZ a) (zZ b) 0 1) 0 1)=(pr (hiT (zZ c) (zZ d) 0 1) 0 1))))]) (λ_=>[.var b7 31 H,.var b6 31 J,.var b5 31 C,.var b4 31 D]) (λm_=>m_) ?_ ?_
 ·
  refine zW ((((pr (loT (zZ a) (zZ b) 0 1) 0 1)=(pr (loT (zZ c) (zZ d) 0 1) 0 1))\/((pr (loT (zZ a) (zZ b) 0 1) 0 1)=(pr (hiT (zZ c) (zZ d) 0 1) 0 1)))\/((pr (hiT (zZ a) (zZ b) 0 1) 0 1)=(pr (loT (zZ c) (zZ d) 0 1) 0 1))) (λhg=>?_) (λhg=>?_)
  ·
   refine gT hg I (go5 ?_);refine zS an (MLe.refl _) ⟨?_,trivial⟩ I I;exact congrArg some (vS hg)
  refine gF hg I (go1 ?_);refine lX (xB zL pH U) λgt cf=>(go1 ?_);refine lX (xB zL pH M) λgs ce=>(go1 ?_);refine cL (ev2 I I) call174 (λw hs=>jE hs cf ce oM) λbu ax ae cd=>?_;obtain rfl:bu=vB ((pr (hiT (zZ a) (zZ b) 0 1) 0 1)=(pr (hiT (zZ c) (zZ d) 0 1) 0 1)):=cd;refine go2 ?_;refine zS ax ae ⟨?_,trivial⟩ I I;exact congrArg some (vT hg)
 intro co bi;refine tZ ?_;refine gc3 (λct=>?_) λct=>?_
 ·
  refine go8 ?_;refine zC I I ?_;refine congrArg vI ?_;rw[<-s6 I I I I];unfold w4;grind
 refine go9 ?_;refine zC I I ?_;refine congrArg vI ?_;rw[<-s6 I I I I];unfold w4;grind
theorem zL6{k:Nat}{vl:Value}{l:(List Tq)}(rl:(tLs k).Is h0 vl l){vp:Value}{p:Tq}(rp:(tPt k).Is h0 vp p)(hcd0:k<=5000)(hcd1:l.length<=1000):
 Calls Tryz.prog 150 #[vl,vp] w0 (Ret w0 h0 (λ_ r=>r=vI (gA l (pr p 0 1) 0 1))):=by
 refine cb2 66 vl vp func150 hs ?_;refine go2 ?_;refine nB rp λb3 ae ac=>(pP ?_);refine gcL (ι:=Nat×Mem) (λ(m,ma)=>(MLe h0 ma/\(m<=l.length/\∀q,q<m->¬onS (wV l 0 1 q) (wU l 0 1 q) (pr p 0 1)),[(0,vl),(3,vP b3 0),(5,vB (jD l (pr p 0 1) 0 1 m)),(6,vI ↑m)],[.var b3 31 ae],ma,l.length-m)) (0,h0) ?_ ?_ (he:=⟨I,I,congrArg some (yM id).symm,I,trivial⟩)
 · exact⟨mle,by omega,λq hq=>by omega⟩
 rintro⟨m,ma⟩ ⟨cm,aw,ad⟩
 refine xC ?_;refine gc9 (λax=>?_) λax=>?_
 ·
  refine go5 ?_;refine zJ 16 _ [(12,(7,31,[.bool false,.slice none 0 0,.slice none 0 0,.bool false,.slice none 0 0,.slice none 0 0,.bool false,.slice none 0 0,.slice none 0 0])),(13,(8,31,[.bool false,.slice none 0 0,.slice none 0 0,.bool false,.slice none 0 0,.slice none 0 0,.bool false,.slice none 0 0,.slice none 0 0]))] [(0,.q),(1,.q),(2,.q),(3,.q),(4,.q),(5,.q),(6,.q),(7,.q),(8,.q),(9,.q),(10,.q),(11,.q),(12,.a),(13,.a),(14,.c),(15,.c)] yA (jS.cons I I (qA yU I I) (jS.cons I I (qA yU I I) jS.nil)) (wP zor) (qD I I (qD I I kW)) (λr hr=>hr) (go2 ?_);refine wX I (xI zT m underlying35 zL rl) λdl cg=>(wX I (xA zL cg) λdk cf=>(go4 ?_));refine w_q I (λh' L' hh hR=>qH underlying35 I (rl.up.mono hh)) I (wC I (λ_ _=>wF I I oM oM) I (wX I (xI zT ((m+1)%l.length) underlying35 zL rl (hi:=by exact Nat.mod_lt _ oM)) λdj ce=>(wX I (xA zL ce) λdi cd=>?_)));refine w_a I I (λb7=>?_);have bh:(tPt (k+1)).R ma [.bool false,.slice none 0 0,.slice none 0 0,.bool false,.slice none 0 0,.slice none 0 0,.bool false,.slice none 0 0,.slice none 0 0] zT:=(xW (yN oM));refine w_a I I (λb8=>?_);have bg:(tPt (k+1)).R ma [.bool false,.slice none 0 0,.slice none 0 0,.bool false,.slice none 0 0,.slice none 0 0,.bool false,.slice none 0 0,.slice none 0 0] zT:=(xW (yN oM));refine w_c I (aY (A:=[_]) (uB sizeOf31 pH bh (cf.le (Le.t (Le.q (l:=k+1) oM)))) (wH zov) λba J=>?_);refine w_c I (aY (A:=[]) (uB sizeOf31 pH bg (cd.le (Le.t (Le.q (l:=k+1) oM)))) (wH zov) λaz H=>(go4 ?_));refine zJ 7 _ [] [(0,.q),(2,.q),(4,.q),(1,.c),(3,.c),(5,.c),(6,.c)] yA nX zor nX (λr hr=>hr) (wX I (xB zL pH J) λdh cc=>(wX I (xB zL pH H) λde cb=>(wX I (xB zL pH ac) λdc ca=>?_)));refine w_c I (sC (ev1 I) call185 (λw hs=>cX hs cc) λdf h1 dq ao=>?_);replace ao:=Rp.Is.le ao (Le.t (Le.q (l:=k+2) oM));refine w_c I (sC (ev1 I) call185 (λw hs=>cX hs cb.up) λdd h2 dp an=>?_);replace an:=Rp.Is.le an (Le.t (Le.q (l:=k+2) oM));refine w_c I (sC (ev1 I) call185 (λw hs=>cX hs ca.up) λdb h3 dn bz=>?_);refine w_c I (sC (ev3 I I I) call184 (λw hs=>oK hs ao.up an.up (bz.le (Le.t (Le.q (l:=k+2) oM))) oM) λbf h4 dm bx=>?_);obtain rfl:bf=vB (onS (pr (T3.mk ((l.getD m zT).x) ((l.getD m zT).y) (0:Rat)) 0 1) (pr (T3.mk ((l.getD ((m+1)%l.length) zT).x) ((l.getD ((m+1)%l.length) zT).y) (0:Rat)) 0 1) (pr (zZ p) 0 1)):=bx;refine gc2 (λZ=>?_) λZ=>?_
  ·
   refine qE ?_;refine zC I I ?_;exact congrArg vI (zYG oM Z)
  refine go2 ?_;refine jI (ι:=List Value×List Value×Mem) (λ(D,C,mc)=>MLe h4 mc/\((tPt (k+1)).R mc D (zBQ (l.getD m zT) (l.getD ((m+1)%l.length) zT))/\(tPt (k+1)).R mc C (zDH (l.getD m zT) (l.getD ((m+1)%l.length) zT))/\True)) (λ(D,C,mc)=>[(0,vl),(3,vP b3 0),(5,vB (jD l (pr p 0 1) 0 1 m)),(6,vI ↑m),(7,vP b7 0),(8,vP b8 0)]) (λ(D,C,mc)=>[.var b8 31 C,.var b7 31 D,.var b3 31 ae]) (λ(D,C,mc)=>mc) ?_ ?_
  ·
   refine go3 ?_;refine lX (xB yD (Pc.ty pH) J) λda bw=>(go1 ?_);refine lX (xB yD (Pc.ty pH) H) λcz bv=>(cL (ev2 I I) call17 (λw hs=>fZ hs bw bv oM) λbe h5 ar bu=>?_);obtain rfl:be=vI (xS ((l.getD m zT).y) ((l.getD ((m+1)%l.length) zT).y)):=bu;have ck:=qV ((l.getD m zT).y) ((l.getD ((m+1)%l.length) zT).y);refine gc3 (λO=>?_) λO=>?_
   ·
    refine go1 ?_;refine lX (xB zL pH H) λcy bt=>(lX (xB zL pH J) λcw bs=>(yI (A:=[_]) (uB sizeOf31 pH J bt) λay am=>(yI (A:=[]) (uB sizeOf31 pH H bs) λau ak=>(go1 ?_))));refine zS (ay,au,h5) ?_ e6z I I;refine⟨ar,?_⟩;refine⟨(Rp.castR am (if_pos O).symm),(Rp.castR ak (if_pos O).symm),?_⟩
    trivial
   refine go1 ?_;refine zS (ba,az,h5) ?_ e6z I I;refine⟨ar,?_⟩;refine⟨(Rp.castR J.up (if_neg O).symm),(Rp.castR H.up (if_neg O).symm),?_⟩
   trivial
  rintro⟨D,C,mc⟩ ⟨cl,aj⟩
  refine xC ?_;obtain⟨ai,ah,aj⟩:=aj;refine go3 ?_;refine lX (xB yD (Pc.ty pH) ai) λcv br=>(go1 ?_);refine lX (xB yD (Pc.ty pH) ac) λcu bq=>(cL (ev2 I I) call17 (λw hs=>fZ hs br bq oM) λbd h5 ar bp=>?_);obtain rfl:bd=vI (xS ((zBQ (l.getD m zT) (l.getD ((m+1)%l.length) zT)).y) p.y):=bp;have cj:=qV ((zBQ (l.getD m zT) (l.getD ((m+1)%l.length) zT)).y) p.y;refine go1 ?_;refine uY (ι:=Mem) 8 (λm_=>MLe h5 m_) (λ_=>[(55,vB (((xS ((zBQ (l.getD m zT) (l.getD ((m+1)%l.length) zT)).y) p.y)<=(0:Int))/\((xS p.y ((zDH (l.getD m zT) (l.getD ((m+1)%l.length) zT)).y))<(0:Int)))),(0,vl),(3,vP b3 0),(5,vB (jD l (pr p 0 1) 0 1 m)),(6,vI ↑m),(7,vP b7 0),(8,vP b8 0)]) (λ_=>[.var b8 31 C,.var b7 31 D,.var b3 31 ae]) (λm_=>m_) ?_ ?_
  ·
   refine zW ((xS ((zBQ (l.getD m zT) (l.getD ((m+1)%l.length) zT)).y) p.y)<=(0:Int)) (λhg=>?_) (λhg=>?_)
   ·
    refine gT hg I (go3 ?_);refine lX (xB yD (Pc.ty pH) ac) λct bo=>(go3 ?_);refine lX (xB yD (Pc.ty pH) ah) λcq bn=>(go1 ?_);refine cL (ev2 I I) call17 (λw hs=>fZ hs bo bn oM) λbc h6 aq bm=>?_;obtain rfl:bc=vI (xS p.y ((zDH (l.getD m zT) (l.getD ((m+1)%l.length) zT)).y)):=bm;have ci:=qV p.y ((zDH (l.getD m zT) (l.getD ((m+1)%l.length) zT)).y);refine go4 ?_;refine zS h6 aq ⟨?_,I,I,I,I,I,I,trivial⟩ I I;exact congrArg some (xH hg)
   refine gF hg I (go8 ?_);refine zS h5 (MLe.refl _) ⟨?_,I,I,I,I,I,I,trivial⟩ I I;exact congrArg some (xJ hg)
  intro U av;refine tZ ?_;refine uY (ι:=Mem) 7 (λm_=>MLe U m_) (λ_=>[(62,vB ((((xS ((zBQ (l.getD m zT) (l.getD ((m+1)%l.length) zT)).y) p.y)<=(0:Int))/\((xS p.y ((zDH (l.getD m zT) (l.getD ((m+1)%l.length) zT)).y))<(0:Int)))/\((0:Int)<(orZ (pr (zBQ (l.getD m zT) (l.getD ((m+1)%l.length) zT)) 0 1) (pr (zDH (l.getD m zT) (l.getD ((m+1)%l.length) zT)) 0 1) (pr p 0 1))))),(0,vl),(3,vP b3 0),(5,vB (jD l (pr p 0 1) 0 1 m)),(6,vI ↑m)]) (λ_=>[.var b8 31 C,.var b7 31 D,.var b3 31 ae]) (λm_=>m_) ?_ ?_
  ·
   refine zW (((xS ((zBQ (l.getD m zT) (l.getD ((m+1)%l.length) zT)).y) p.y)<=(0:Int))/\((xS p.y ((zDH (l.getD m zT) (l.getD ((m+1)%l.length) zT)).y))<(0:Int))) (λhg=>?_) (λhg=>?_)
   ·
    refine gT hg I (go1 ?_);refine lX (xB zL pH ai) λcp bl=>(go1 ?_);refine lX (xB zL pH ah) λco bk=>(go1 ?_);refine lX (xB zL pH ac) λcn bj=>(go1 ?_);refine cL (ev3 I I I) call186 (λw hs=>tK hs bl bk (bj.le (Le.t (Le.q (l:=k+1) oM))) oM) λbb h6 aq bi=>?_;obtain rfl:bb=vI (orZ (pr (zBQ (l.getD m zT) (l.getD ((m+1)%l.length) zT)) 0 1) (pr (zDH (l.getD m zT) (l.getD ((m+1)%l.length) zT)) 0 1) (pr p 0 1)):=bi;have ch:=tJ (pr (zBQ (l.getD m zT) (l.getD ((m+1)%l.length) zT)) 0 1) (pr (zDH (l.getD m zT) (l.getD ((m+1)%l.length) zT)) 0 1) (pr p 0 1);refine go4 ?_;refine zS h6 aq ⟨?_,I,I,I,I,trivial⟩ I I;exact congrArg some (xH hg)
   refine gF hg I (go7 ?_);refine zS U (MLe.refl _) ⟨?_,I,I,I,I,trivial⟩ I I;exact congrArg some (xJ hg)
  intro M ap;refine tZ ?_;refine gc2 (λab=>?_) λab=>?_
  ·
   refine qE ?_;refine xO (A:=[]) (xO (A:=[]) ?_);refine gqL ((m+1),M) ?_ ?_ (he:=⟨I,I,congrArg (λz=>some (vB z)) (yHA ((zGI _ _ _).1 ab)),I,trivial⟩)
   · exact⟨mle,by omega,zAN ad Z⟩
   omega
  refine go8 ?_;refine xO (A:=[]) (xO (A:=[]) ?_);refine gqL ((m+1),M) ?_ ?_ (he:=⟨I,I,congrArg (λz=>some (vB z)) (yBT λe=>ab ((zGI _ _ _).2 e)),I,trivial⟩)
  · exact⟨mle,by omega,zAN ad Z⟩
  omega
 refine zCK (λaa=>?_) λaa=>?_
 ·
  refine go7 ?_;refine zC I I ?_;exact congrArg vI (zYH oM aw ad aa)
 refine go8 ?_;refine zC I I ?_;exact congrArg vI (zRC oM aw ad aa)
theorem zO3{k:Nat}{vL:Value}{L:(List (List Tq))}(rL:(tLL k).Is h0 vL L){vp:Value}{p:Tq}(rp:(tPt k).Is h0 vp p){i:Nat}{j:Nat}(hcd0:i<3)(hcd1:j<3)(hcd2:k<=100000)(hcd3:∀x,x∈L->x.length<=1000)(hcd4:L.length<=1000):
 Calls Tryz.prog 149 #[vL,vp,vI ↑i,vI ↑j] w0 (Ret w0 h0 (λ_ r=>r=vI (whZ L (pr p i j) i j))):=by
 refine jK (n:=31) (e:=[(0,vL),(1,vp),(2,vI ↑i),(3,vI ↑j)]) (vs:=[vL,vp,vI ↑i,vI ↑j]) func149 rfl rfl (bL rfl) hs e4z (go2 ?_);refine nB rp λb5 ad O=>(oW ?_);refine gcL (ι:=Nat×Mem) (λ(m,ma)=>(MLe h0 ma/\(m<=L.length/\∀q,q<m->¬gA (L.getD q []) (pr p i j) i j=0),[(2,vI ↑i),(3,vI ↑j),(5,vP b5 0),(9,vI (eU L (pr p i j) i j m)),(12,vL),(13,vI (↑(L).length:Int)),(14,vI ↑m)],[.var b5 31 ad],ma,L.length-m)) (0,h0) ?_ ?_
 · exact⟨mle,by omega,λq hq=>by omega⟩
 rintro⟨m,ma⟩ ⟨ae,ac,H⟩
 refine xC ?_;have ak:=zEA L (pr p i j) i j m;refine gc6 (λJ=>?_) λJ=>?_
 ·
  refine go6 ?_;refine lX (xI [] m underlying76 uN rL) λaj ab=>(lX (xA uN ab) λai aa=>(go6 ?_));refine lX (xB zL pH O) λah Z=>(go2 ?_);refine cL (ev4 I I I I) call183 (λw hs=>zMB (i:=i) (j:=j) hs aa Z oM oM oM (by first|omega|exact zYW zoz _)) λM h1 am U=>?_;obtain rfl:M=vI (gA (L.getD m []) (pr p i j) i j):=U;refine gc9 (λC=>?_) λC=>?_
  ·
   refine qE ?_;refine zC I I ?_;exact congrArg vI (if_pos ⟨m,by omega,C⟩).symm
  refine gc6 (λD=>?_) λD=>?_
  ·
   refine go2 ?_;refine gv (mJ I oM oM) I (go9 ?_);refine gqL ((m+1),h1) ?_ ?_ (he:=⟨I,I,I,congrArg (λz=>some (vI z)) (if_pos D).symm,I,I,I,trivial⟩)
   · exact⟨mle,by omega,zQD H C⟩
   omega
  refine go8 ?_;refine gqL ((m+1),h1) ?_ ?_ (he:=⟨I,I,I,congrArg (λz=>some (vI z)) (if_neg D).symm,I,I,I,trivial⟩)
  · exact⟨mle,by omega,zQD H C⟩
  omega
 refine qE ?_;refine zC I I ?_;exact congrArg vI (yEU oM ac H)
end
end Go.Proofs.YtpkaegemlpaenaaGreat
namespace Bk
open Classical
def zSD(R:Nat->Nat->Prop)(q b:Nat):Prop:=∀p,p<b->R p q
def zK4(R:Nat->Nat->Prop)(a:Nat):Prop:=∀q,q<a->zSD R q q
theorem zU8{R:Nat->Nat->Prop}:zK4 R 0:=λq h=>by omega
theorem yAH{R:Nat->Nat->Prop}{q:Nat}:zSD R q 0:=λp h=>by omega
theorem yAI{R:Nat->Nat->Prop}{q b:Nat}(h:zSD R q b)(h1:R b q):zSD R q (b+1):=λp h3=>by
 rcases Nat.lt_succ_iff_lt_or_eq.1 h3 with h4|h4
 · exact h p h4
 · subst h4;exact h1
theorem zU9{R:Nat->Nat->Prop}{a b:Nat}(h:zK4 R a)(h1:zSD R a b)(hb:a<=b):zK4 R (a+1):=λq h2=>by
 rcases Nat.lt_succ_iff_lt_or_eq.1 h2 with h5|h5
 · exact h q h5
 · subst h5;exactλp hp=>h1 p zoq
def zZQ(l:List Pt)(k i:Nat):Prop:=yLL l 0 1 k i/\okT l 0 1 k i
theorem yA5{l:List Pt}(h3:3<=l.length)(h:zK4 (zZQ l) l.length):aE l 0 1:=
 ⟨h3,λp q h1 h2 h4=>(h q h4 p h2).1,λp q h1 h2 h4=>(h q h4 p h2).2⟩
theorem zW4{l:List Pt}{k i:Nat}:oA (wV l 0 1 i) (wU l 0 1 i) (wV l 0 1 k) (wU l 0 1 k)=zHH l.length k i↔okT l 0 1 k i:=by
 unfold okT;rw[<-zK3,zEH]
end Bk
namespace Go.Proofs.YtpkaegemlpaenaaGreat
open Bk Go Tryz
set_option maxRecDepth 10000
set_option maxHeartbeats 1000000
attribute [local irreducible] GL GC GQ W OpV
section
variable{w0:World}{h0:Mem}(hs:MLe h0 (mem w0))
include hs
theorem zL3{k:Nat}{vl:Value}{l:(List Tq)}(rl:(tLs k).Is h0 vl l)(hcd0:k<=5000)(hcd1:l.length<=1000):
 Calls Tryz.prog 129 #[vl] w0 (Ret w0 h0 (λ_ r=>r=vB (aE l 0 1))):=by
 refine cb1 69 vl func129 hs ?_;refine zYU ?_;refine cnd (λab=>?_) λab=>?_
 ·
  refine go7 ?_;refine zC I I ?_;exact(yM (λe=>by have:=e.1;omega)).symm
 refine go9 ?_;refine gcL (ι:=Nat×Mem) (λ(i,M)=>(MLe h0 M/\(i<=l.length/\zK4 (zZQ l) i),[(0,vl),(3,vI (↑(l).length:Int)),(4,vI ↑i)],[],M,l.length-i)) (0,h0) ?_ ?_
 · exact⟨mle,by omega,zU8⟩
 rintro⟨i,M⟩ ⟨az,bo,hi2⟩
 refine xC ?_;refine gc8 (λaa=>?_) λaa=>?_
 ·
  refine uK ?_;refine gcL (ι:=Nat×Mem) (λ(q,mq)=>(MLe M mq/\(q<=i/\zSD (zZQ l) i q),[(0,vl),(3,vI (↑(l).length:Int)),(4,vI ↑i),(5,vI ↑q)],[],mq,i-q)) (0,M) ?_ ?_
  · exact⟨mle,by omega,yAH⟩
  rintro⟨q,mq⟩ ⟨ay,bn,O⟩
  refine xC ?_;refine gc8 (λZ=>?_) λZ=>?_
  ·
   refine go6 ?_;refine zJ 9 _ [] [(0,.q),(1,.q),(2,.q),(3,.q),(4,.q),(5,.q),(6,.q),(7,.q),(8,.c)] yA nX zor nX (λr hr=>hr) (go2 ?_);refine wX I (xI zT i underlying35 zL rl) λbm aw=>(wX I (xA zL aw) λbl av=>(go2 ?_));refine wX I (xI zT q underlying35 zL rl) λbk au=>(wX I (xA zL au) λbj ar=>?_);refine w_c I (sC (ev2 I I) call174 (λw hs=>jE hs av ar oM) λad h1 bq aq=>?_);obtain rfl:ad=vB ((pr (l.getD i zT) 0 1)=(pr (l.getD q zT) 0 1)):=aq;refine gc2 (λH=>?_) λH=>?_
   ·
    refine k7 ?_;refine zC I I ?_;exact(yM (λe=>e.2.1 q i oM oM oM H.symm)).symm
   refine go7 ?_;refine jI (ι:=Mem) (λ(J:(Mem))=>MLe h1 J/\(True)) (λ(J:(Mem))=>[(0,vl),(3,vI (↑(l).length:Int)),(4,vI ↑i),(5,vI ↑q),(6,vI (zHH l.length q i))]) (λ(J:(Mem))=>[]) (λ(J:(Mem))=>J) ?_ ?_
   ·
    refine go6 ?_;refine gU 10 43 (vB (((↑i:Int)=((↑q:Int)+(1:Int)))\/(((↑q:Int)=(0:Int))/\((↑i:Int)=((↑(l).length:Int)-(1:Int)))))) ?_ ?_
    ·
     refine zW ((↑i:Int)=((↑q:Int)+(1:Int))) (λC=>?_) (λC=>?_)
     ·
      refine gT C I (uK ?_);refine gqU ?_;exact congrArg some (vS C)
     refine gF C I (go4 ?_);refine gU 6 42 (vB (((↑q:Int)=(0:Int))/\((↑i:Int)=((↑(l).length:Int)-(1:Int))))) ?_ ?_
     ·
      refine zW ((↑q:Int)=(0:Int)) (λC=>?_) (λC=>?_)
      ·
       refine go1 ?_;refine gT C I (qI ?_);refine gqU ?_;exact congrArg some (xH C)
      refine go1 ?_;refine gF C I (go7 ?_);refine gqU ?_;exact congrArg some (xJ C)
     refine go2 ?_;refine gqU ?_;exact congrArg some (vT C)
    refine gc2 (λU=>?_) λU=>?_
    ·
     refine go3 ?_;refine zS (h1) ?_ ⟨I,I,I,I,?_,trivial⟩ I I
     ·
      refine⟨MLe.refl _,?_⟩
      trivial
     · exact congrArg (λz=>some (vI z)) (yEW oM)
    refine go1 ?_;refine zS (h1) ?_ ⟨I,I,I,I,?_,trivial⟩ I I
    ·
     refine⟨MLe.refl _,?_⟩
     trivial
    · exact congrArg (λz=>some (vI z)) (yEX oM)
   rintro J ⟨ax,ba⟩
   refine xC ?_;refine go1 ?_;refine zJ 25 _ [] [(0,.q),(1,.q),(2,.q),(3,.q),(4,.q),(5,.q),(6,.q),(7,.q),(8,.q),(9,.q),(10,.q),(11,.q),(12,.q),(13,.q),(14,.q),(15,.q),(16,.q),(17,.q),(18,.q),(19,.q),(20,.q),(21,.q),(23,.q),(22,.c),(24,.q)] yA nX (wP zor) nX (λr hr=>hr) (go2 ?_);refine wX I (xI zT i underlying35 zL rl) λbi ap=>(wX I (xA zL ap) λbh ao=>(go4 ?_));refine wC I (λ_ _=>wF I I oM oM) I (wX I (xI zT ((i+1)%l.length) underlying35 zL rl (hi:=by exact Nat.mod_lt _ oM)) λbg an=>(wX I (xA zL an) λbf am=>(go2 ?_)));refine wX I (xI zT q underlying35 zL rl) λbe ak=>(wX I (xA zL ak) λbd aj=>(go4 ?_));refine wC I (λ_ _=>wF I I oM oM) I (wX I (xI zT ((q+1)%l.length) underlying35 zL rl (hi:=by exact Nat.mod_lt _ oM)) λbc ai=>(wX I (xA zL ai) λbb ah=>(go1 ?_)));refine w_c I (sC (ev4 I I I I) call175 (λw hs=>zFH hs ao am aj ah oM) λac h2 bp ae=>?_);obtain rfl:ac=vI (oA (pr (l.getD i zT) 0 1) (pr (l.getD ((i+1)%l.length) zT) 0 1) (pr (l.getD q zT) 0 1) (pr (l.getD ((q+1)%l.length) zT) 0 1)):=ae;refine gc3 (λD=>?_) λD=>?_
   ·
    refine pP ?_;refine zC I I ?_;exact(yM (λe=>D (zW4.2 (e.2.2 q i oM oM oM)))).symm
   refine go8 ?_;refine gqL ((q+1),h2) ?_ ?_
   · exact⟨mle,by omega,yAI O ⟨λe=>H e.symm,zW4.1 (Classical.not_not.1 D)⟩⟩
   omega
  refine qI ?_;refine gqL ((i+1),mq) ?_ ?_
  · exact⟨mle,by omega,zU9 hi2 O oM⟩
  omega
 have ei:i=l.length:=by omega
 have hT:=hi2;rw[ei] at hT;refine qI ?_;refine zC I I ?_;exact(xT (yA5 oM hT)).symm
theorem zJO{k:Nat}{va:Value}{a:(List Tq)}(ra:(tLs k).Is h0 va a){vb:Value}{b:(List Tq)}(rb:(tLs k).Is h0 vb b)(hcd0:k<=5000)(hcd1:a.length<=1000)(hcd2:b.length<=1000):
 Calls Tryz.prog 130 #[va,vb] w0 (Ret w0 h0 (λ_ r=>r=vB (gM a b 0 1))):=by
 refine cb2 45 va vb func130 hs ?_;refine qE ?_;refine gcL (ι:=Nat×Mem) (λ(p,D)=>(MLe h0 D/\(p<=a.length/\∀u v,u<p->v<b.length->¬y7 a b 0 1 u v),[(0,va),(1,vb),(5,vI ↑p)],[],D,a.length-p)) (0,h0) ?_ ?_
 · exact⟨mle,by omega,λu v h=>by omega⟩
 rintro⟨p,D⟩ ⟨an,az,J⟩
 refine xC ?_;refine gc9 (λO=>?_) λO=>?_
 ·
  refine uK ?_;refine gcL (ι:=Nat×Mem) (λ(q,U)=>(MLe D U/\(q<=b.length/\∀v,v<q->¬y7 a b 0 1 p v),[(0,va),(1,vb),(5,vI ↑p),(6,vI ↑q)],[],U,b.length-q)) (0,D) ?_ ?_
  · exact⟨mle,by omega,λv h=>by omega⟩
  rintro⟨q,U⟩ ⟨am,ay,H⟩
  refine xC ?_;refine gc9 (λM=>?_) λM=>?_
  ·
   refine go5 ?_;refine zJ 26 _ [] [(0,.q),(1,.q),(2,.q),(3,.q),(4,.q),(5,.q),(6,.q),(7,.q),(8,.q),(9,.q),(10,.q),(11,.q),(12,.q),(13,.q),(14,.q),(15,.q),(16,.q),(17,.q),(18,.q),(19,.q),(20,.q),(21,.q),(22,.q),(23,.q),(24,.c),(25,.q)] yA nX (wP zor) nX (λr hr=>hr) (go2 ?_);refine wX I (xI zT p underlying35 zL ra) λax ak=>(wX I (xA zL ak) λaw aj=>(go4 ?_));refine w_q I (λh' L' hh hR=>qH underlying35 I (ra.up.mono hh)) I (wC I (λ_ _=>wF I I oM oM) I (wX I (xI zT ((p+1)%a.length) underlying35 zL ra (hi:=by exact Nat.mod_lt _ oM)) λav ai=>(wX I (xA zL ai) λau ah=>(go2 ?_))));refine wX I (xI zT q underlying35 zL rb) λar ae=>(wX I (xA zL ae) λaq ad=>(go4 ?_));refine w_q I (λh' L' hh hR=>qH underlying35 I (rb.up.mono hh)) I (wC I (λ_ _=>wF I I oM oM) I (wX I (xI zT ((q+1)%b.length) underlying35 zL rb (hi:=by exact Nat.mod_lt _ oM)) λap ac=>(wX I (xA zL ac) λao ab=>?_)));refine w_c I (sC (ev4 I I I I) call175 (λw hs=>zFH hs aj ah ad ab oM) λZ h1 ba aa=>?_);obtain rfl:Z=vI (oA (pr (a.getD p zT) 0 1) (pr (a.getD ((p+1)%a.length) zT) 0 1) (pr (b.getD q zT) 0 1) (pr (b.getD ((q+1)%b.length) zT) 0 1)):=aa;refine gc3 (λC=>?_) λC=>?_
   ·
    refine pP ?_;refine zC I I ?_;exact(xT ⟨p,q,by omega,by omega,(zZE.1 C)⟩).symm
   refine go8 ?_;refine gqL ((q+1),h1) ?_ ?_
   · exact⟨mle,by omega,zV9 (n:=0) (Q:=y7 a b 0 1) H (λe=>C (zZE.2 e))⟩
   omega
  refine qI ?_;refine gqL ((p+1),U) ?_ ?_
  · exact⟨mle,by omega,zS3 J H oM⟩
  omega
 refine qI ?_;refine zC I I ?_;exact(yM (λ⟨u,v,h1,h2,h3⟩=>J u v oM h2 h3)).symm
theorem zL5{k:Nat}{vp:Value}{p:Tq}(rp:(tPt k).Is h0 vp p){vq:Value}{q:Tq}(rq:(tPt k).Is h0 vq q)(hcd0:k<=100000):
 Calls Tryz.prog 176 #[vp,vq] w0 (Ret w0 h0 (λh r=>(tPt (2*k+2)).Is h r (T3.mk (zCB p.x q.x) (zCB p.y q.y) (0:Rat)))):=by
 refine cb2 16 vp vq func176 hs ?_;refine go2 ?_;refine nB rp λb2 aq O=>(nB rq λb3 ap M=>(nA (ρ:=(tPt (2*k+2))) (X:=zT) yU (xW (yN oM)) λb4 ao U=>(go3 ?_)));refine zJ 11 _ [] [(0,.q),(1,.q),(2,.q),(3,.q),(5,.q),(6,.q),(7,.q),(8,.q),(4,.c),(9,.c),(10,.q),(11,.t)] yA nX (wP zor) nX (λr hr=>hr) (go1 ?_);refine wX I (xB yD (Pc.tx pH) O) λv6 r6=>(go1 ?_);refine wX I (xB yD (Pc.tx pH) M) λv8 r8=>(go1 ?_);refine wX I (xB yD (Pc.ty pH) O) λak ac=>(go1 ?_);refine wX I (xB yD (Pc.ty pH) M) λaj ab=>?_;refine w_c I (sC (ev2 I I) call203 (λw hs=>zFE hs r6 r8 oM) λv9 h1 an Z=>?_);replace Z:=Rp.Is.le Z (Le.q (l:=2*k+2) oM);refine w_c I (sC (ev2 I I) call203 (λw hs=>zFE hs ac.up ab.up oM) λai h2 am C=>?_);replace C:=Rp.Is.le C (Le.q (l:=2*k+2) oM);refine wX I (xV (ρ:=(tPt (2*k+2))) (wJ (ps':=[(0,_),(1,_)]) underlying31 yU I I sizeOf29 e4z I (xW (yN oM)) (zG I (Pc.tx (Pc.here _)) Z.up (zG I (Pc.ty (Pc.here _)) C zR)))) λah aa=>(yK (A:=[]) I (uB sizeOf31 pH U aa) λad J=>(go3 ?_));refine uJ (fV (t:=4) zL mh0 I J) ?_;intro ae D H;refine yW (λE S=>yE I D E S) ?_;exact H
theorem zC6{k:Nat}{va:Value}{a:(List Tq)}(ra:(tLs k).Is h0 va a){vb:Value}{b:(List Tq)}(rb:(tLs k).Is h0 vb b)(hcd0:k<=2000)(hcd1:a.length<=1000)(hcd2:b.length<=1000):
 Calls Tryz.prog 133 #[va,vb] w0 (Ret w0 h0 (λ_ r=>r=vI (wiZ a b 0 1))):=by
 refine cb2 32 va vb func133 hs ?_;refine oW ?_;refine gcL (ι:=Nat×Mem) (λ(m,ma)=>(MLe h0 ma/\(m<=b.length),[(0,va),(1,vb),(5,vI (pR a b 0 1 m)),(6,vI ↑m)],[],ma,b.length-m)) (0,h0) ?_ ?_
 · exact⟨mle,oM⟩
 rintro⟨m,ma⟩ ⟨ac,D⟩
 refine xC ?_;have am:=D;have ak:=mZ a b 0 1 m;refine gc9 (λH=>?_) λH=>?_
 ·
  refine go5 ?_;refine zJ 16 _ [] [(0,.q),(1,.q),(2,.q),(3,.q),(4,.q),(5,.q),(6,.q),(7,.q),(8,.q),(9,.q),(10,.q),(11,.q),(12,.q),(13,.c),(14,.c),(15,.q)] yA nX (wP zor) nX (λr hr=>hr) (go3 ?_);refine wX I (xI zT m underlying35 zL rb) λaj ab=>(wX I (xA zL ab) λai aa=>(go4 ?_));refine w_q I (λh' L' hh hR=>qH underlying35 I (rb.up.mono hh)) I (wC I (λ_ _=>wF I I oM oM) I (wX I (xI zT ((m+1)%b.length) underlying35 zL rb (hi:=by exact Nat.mod_lt _ oM)) λah Z=>(wX I (xA zL Z) λae U=>?_)));refine w_c I (sC (ev2 I I) call176 (λw hs=>zL5 hs aa U oM) λad h1 ao O=>?_);refine w_c I (sC (ev2 I I) call150 (λw hs=>zL6 hs (ra.up.le (Le.s (Le.t (Le.q (l:=2*k+2) oM)))) O oM oM) λJ h2 an M=>?_);obtain rfl:J=vI (gA a (pr (T3.mk (zCB (b.getD m zT).x (b.getD ((m+1)%b.length) zT).x) (zCB (b.getD m zT).y (b.getD ((m+1)%b.length) zT).y) (0:Rat)) 0 1) 0 1):=M;refine gc3 (λC=>?_) λC=>?_
  ·
   refine qE ?_;refine gqL ((m+1),h2) ?_ ?_ (he:=⟨I,I,congrArg (λz=>some (vI z)) (yER (yD0 _ _) C),I,trivial⟩)
   · exact⟨mle,oM⟩
   omega
  refine go8 ?_;refine gqL ((m+1),h2) ?_ ?_ (he:=⟨I,I,congrArg (λz=>some (vI z)) (yES (yD0 _ _) C),I,trivial⟩)
  · exact⟨mle,oM⟩
  omega
 refine qE ?_;refine zC I I ?_;have em:m=b.length:=by omega
 subst em
 rfl
theorem zL4{k:Nat}{vL:Value}{L:(List (List Tq))}(rL:(tLL k).Is h0 vL L){f:Nat}(hcd0:f<L.length)(hcd1:L.length<=16)(hcd2:k<=2000)(hcd3:∀u,u<L.length->¬64<(gl L u).length):
 Calls Tryz.prog 132 #[vL,vI ↑f] w0 (Ret w0 h0 (λ_ r=>r=vI (tR L 0 1 f L.length))):=by
 have hE:=hcd3;refine cb2 55 vL (vI ↑f) func132 hs ?_;refine oW ?_;refine gcL (ι:=Nat×Mem) (λ(g,ma)=>(MLe h0 ma/\(g<=L.length),[(0,vL),(1,vI ↑f),(5,vI (tR L 0 1 f g)),(6,vI ↑g)],[],ma,L.length-g)) (0,h0) ?_ ?_
 · exact⟨mle,oM⟩
 rintro⟨g,ma⟩ ⟨ba,bx⟩
 refine xC ?_;have bq:=zB2 L 0 1 f g;refine gc9 (λM=>?_) λM=>?_
 ·
  refine go6 ?_;refine zJ 24 _ [] [(0,.q),(1,.q),(2,.q),(3,.q),(4,.c),(5,.c),(6,.q),(7,.q),(8,.q),(9,.q),(10,.q),(11,.q),(12,.q),(13,.q),(14,.q),(15,.q),(17,.q),(18,.q),(19,.q),(20,.q),(21,.q),(16,.c),(22,.q),(23,.q)] yA nX (wP zor) nX (λr hr=>hr) (go2 ?_);refine wX I (xI [] g underlying76 uN rL) λbp aw=>(wX I (xA uN aw) λbo av=>?_);refine w_c I (sC (ev1 I) call131 (λw hs=>pM hs av oM (by first|omega|exact Nat.le_trans (Nat.not_lt.1 (hE _ oM)) dC|exact Nat.le_trans (hF _ oM) dC)) λbn h1 bw au=>?_);refine w_c I (sC (ev1 I) call48 (λw hs=>qC hs au dC) λZ h2 bv ar=>?_);obtain rfl:Z=vI (yV (uP (L.getD g []) 0 1 (L.getD g []).length)):=ar;have ay:=xG (uP (L.getD g []) 0 1 (L.getD g []).length);refine go2 ?_;refine jT ((yV (uP (L.getD g []) 0 1 (L.getD g []).length))<=(0:Int)) (λH=>?_) (λH=>?_)
  ·
   rw[xT H];refine pQ ?_;refine w_c I (mD I I I I (sG ?_));refine gqL ((g+1),h2) ?_ ?_ (he:=⟨I,I,congrArg (λz=>some (vI z)) ((if_neg (λe=>absurd e.1.1 (Int.not_lt.2 zoz))).symm),I,trivial⟩)
   · exact⟨mle,oM⟩
   omega
  rw[yM H];refine yS I I I (λh' L' hh hR=>yY I) I (yS I I I (λh' L' hh hR=>yY I) I (oX I (xI [] g underlying76 uN rL) λbm aq=>(oX I (xA uN aq) λbl ap=>(yS I I I (λh' L' hh hR=>yY I) I (yS I I I (λh' L' hh hR=>yY I) I (oX I (xI [] f underlying76 uN rL) λbk ao=>(oX I (xA uN ao) λbj an=>(yS I I I (λh' L' hh hR=>yY I) I (yS I I I (λh' L' hh hR=>yY I) I (oX I (xI [] f underlying76 uN rL) λbi ak=>(oX I (xA uN ak) λbh aj=>(yS I I I (λh' L' hh hR=>qH underlying35 I (aj.mono hh)) I ?_))))))))))));refine w_c I (zBX I I (sC (ev2 I I) call133 (λw hs=>zC6 hs ap an oM (by first|omega|exact Nat.le_trans (Nat.not_lt.1 (hE _ oM)) dC|exact Nat.le_trans (hF _ oM) dC) (by first|omega|exact Nat.le_trans (Nat.not_lt.1 (hE _ oM)) dC|exact Nat.le_trans (hF _ oM) dC)) λU h3 bu am=>?_));obtain rfl:U=vI (wiZ (L.getD g []) (L.getD f []) 0 1):=am;have ax:=mZ (L.getD g []) (L.getD f []) 0 1 (L.getD f []).length;refine gc4 (λC=>?_) λC=>?_
  ·
   refine go9 ?_;refine gqL ((g+1),h3) ?_ ?_ (he:=⟨I,I,congrArg (λz=>some (vI z)) ((if_neg (λe=>C e.1.2)).symm),I,trivial⟩)
   · exact⟨mle,oM⟩
   omega
  refine go3 ?_;refine zJ 16 _ [] [(0,.q),(1,.q),(2,.q),(3,.q),(4,.q),(5,.q),(6,.q),(8,.q),(9,.q),(10,.q),(11,.q),(7,.c),(12,.c),(13,.c),(14,.q),(15,.q)] yA nX (wP zor) nX (λr hr=>hr) (go3 ?_);refine jT ((tR L 0 1 f g)<(0:Int)) (λD=>?_) (λD=>?_)
  ·
   rw[xT D];refine go8 ?_;refine w_c I (mD I I I I ?_);refine w_c I (mD I I I I ?_);refine w_c I (mD I I I I (k7 ?_));refine gqL ((g+1),h3) ?_ ?_ (he:=⟨I,I,congrArg (λz=>some (vI z)) ((if_pos ⟨⟨Int.not_le.1 zoz,Classical.not_not.1 C⟩,.inl zoz⟩).symm),I,trivial⟩)
   · exact⟨mle,oM⟩
   omega
  rw[yM D];refine yS I I I (λh' L' hh hR=>yY I) I (yS I I I (λh' L' hh hR=>yY I) I (oX I (xI [] g underlying76 uN rL) λbg ai=>(oX I (xA uN ai) λbf ah=>(yS I I I (λh' L' hh hR=>yY I) I (yS I I I (λh' L' hh hR=>yY I) I (oX I (xI [] ((tR L 0 1 f g).toNat) underlying76 uN rL) λbd ad=>(oX I (xA uN ad) λbc ac=>?_)))))));refine w_c I (zBX I I (sC (ev1 I) call131 (λw hs=>pM hs ah oM (by first|omega|exact Nat.le_trans (Nat.not_lt.1 (hE _ oM)) dC|exact Nat.le_trans (hF _ oM) dC)) λbe h4 bt ae=>?_));refine w_c I (zBX I I (sC (ev1 I) call131 (λw hs=>pM hs ac.up oM (by first|omega|exact Nat.le_trans (Nat.not_lt.1 (hE _ oM)) dC|exact Nat.le_trans (hF _ oM) dC)) λbb h5 bs ab=>?_));refine w_c I (zBX I I (sC (ev2 I I) call17 (λw hs=>fZ hs ae.up ab dC) λO h6 br aa=>?_));obtain rfl:O=vI (xS (uP (L.getD g []) 0 1 (L.getD g []).length) (uP (L.getD ((tR L 0 1 f g).toNat) []) 0 1 (L.getD ((tR L 0 1 f g).toNat) []).length)):=aa;have az:=qV (uP (L.getD g []) 0 1 (L.getD g []).length) (uP (L.getD ((tR L 0 1 f g).toNat) []) 0 1 (L.getD ((tR L 0 1 f g).toNat) []).length);refine gc4 (λJ=>?_) λJ=>?_
  ·
   refine qI ?_;refine gqL ((g+1),h6) ?_ ?_ (he:=⟨I,I,congrArg (λz=>some (vI z)) ((if_pos ⟨⟨Int.not_le.1 zoz,Classical.not_not.1 C⟩,.inr J⟩).symm),I,trivial⟩)
   · exact⟨mle,oM⟩
   omega
  refine go8 ?_;refine gqL ((g+1),h6) ?_ ?_ (he:=⟨I,I,congrArg (λz=>some (vI z)) ((if_neg (λe=>e.2.elim (λh=>absurd h zoz) J)).symm),I,trivial⟩)
  · exact⟨mle,oM⟩
  omega
 refine qE ?_;refine zC I I ?_;have eg:g=L.length:=by omega
 rw[eg]
end
set_option maxHeartbeats 2000000 in
section
variable{w0:World}{h0:Mem}(hs:MLe h0 (mem w0))
include hs
theorem zH0{k:Nat}{vL:Value}{L:(List (List Tq))}(rL:(tLL k).Is h0 vL L)(hcd0:k<=2000)(hcd1:∀x,x∈L->aD x):
 Calls Tryz.prog 85 #[vL] w0 (Ret w0 h0 (λh r=>∃u0,r=.tuple #[u0,vI (vW L 0 1)]/\(rpS rpI).Is h u0 (sD L 0 1))):=by
 have hF:=hcd1;refine cb1 133 vL func85 hs ?_;refine sG ?_;refine cnd (λbv=>?_) λbv=>?_
 ·
  refine go8 ?_;refine wL I I I ?_;refine⟨_,?_,(Rp.Is.cast (oU _) (by exact(show vW L 0 1=2/\sD L 0 1=[] from zJU (.inl oM)).2.symm))⟩;rw[(show vW L 0 1=2/\sD L 0 1=[] from zJU (.inl oM)).1]
 refine go9 ?_;refine gcL (ι:=Nat×Mem) (λ(q,ma)=>(MLe h0 ma/\(q<=L.length/\∀u,u<q->¬64<(gl L u).length),[(0,vL),(4,vI ↑q)],[],ma,L.length-q)) (0,h0) ?_ ?_
 · exact⟨mle,by omega,λu h=>by omega⟩
 rintro⟨q,ma⟩ ⟨ec,fc,bg⟩
 refine xC ?_;refine gc9 (λbu=>?_) λbu=>?_
 ·
  refine go8 ?_;refine lX (xI [] q underlying76 uN rL) λeu da=>(lX (xA uN da) λes ev=>(gc4 (λbt=>?_) λbt=>?_))
  ·
   refine qE ?_;refine wL I I I ?_;refine⟨_,?_,(Rp.Is.cast (oU _) (by exact(show vW L 0 1=2/\sD L 0 1=[] from zJU (.inr ⟨q,by omega,(by show 64<(L.getD q []).length;omega)⟩)).2.symm))⟩;rw[(show vW L 0 1=2/\sD L 0 1=[] from zJU (.inr ⟨q,by omega,(by show 64<(L.getD q []).length;omega)⟩)).1]
  refine go8 ?_;refine gqL ((q+1),ma) ?_ ?_
  · exact⟨mle,by omega,vH (Q:=λu=>¬64<(gl L u).length) bg (by show ¬64<(L.getD q []).length;omega)⟩
  omega
 have hE:∀u,u<L.length->¬64<(gl L u).length:=λu hu=>bg u oM;refine qE ?_;refine gcL (ι:=Nat×Mem) (λ(s,ms)=>(MLe ma ms/\(s<=L.length/\∀u,u<s->aE (gl L u) 0 1),[(0,vL),(5,vI ↑s)],[],ms,L.length-s)) (0,ma) ?_ ?_
 · exact⟨mle,by omega,λu h=>by omega⟩
 rintro⟨s,ms⟩ ⟨dx,fb,bf⟩
 refine xC ?_;refine gc9 (λbs=>?_) λbs=>?_
 ·
  refine go8 ?_;refine lX (xI [] s underlying76 uN rL) λer cz=>(lX (xA uN cz) λeq cy=>(cL (ev1 I) call129 (λw hs=>zL3 hs cy oM (by first|omega|assumption|exact Nat.le_trans (Nat.not_lt.1 (hE _ oM)) dC)) λce h1 M cw=>?_));obtain rfl:ce=vB (aE (L.getD s []) 0 1):=cw;refine gc3 (λaa=>?_) λaa=>?_
  ·
   refine qE ?_;refine wL I I I ?_;refine⟨_,?_,(Rp.Is.cast (oU _) (by exact(show vW L 0 1=8/\sD L 0 1=[] from zXM oM hE ⟨s,by omega,aa⟩).2.symm))⟩;rw[(show vW L 0 1=8/\sD L 0 1=[] from zXM oM hE ⟨s,by omega,aa⟩).1]
  refine go8 ?_;refine gqL ((s+1),h1) ?_ ?_
  · exact⟨mle,by omega,vH (Q:=λu=>aE (gl L u) 0 1) bf (Classical.not_not.1 aa)⟩
  omega
 have hS:∀u,u<L.length->aE (gl L u) 0 1:=λu hu=>bf u oM;refine qE ?_;refine gcL (ι:=Nat×Mem) (λ(c,mc)=>(MLe ms mc/\(c<=L.length/\∀u v,v<c->u<v->¬gM (gl L u) (gl L v) 0 1),[(0,vL),(6,vI ↑c)],[],mc,L.length-c)) (0,ms) ?_ ?_
 · exact⟨mle,by omega,λu v h=>by omega⟩
 rintro⟨c,mc⟩ ⟨eb,ed,ak⟩
 refine xC ?_;refine gc9 (λbr=>?_) λbr=>?_
 ·
  refine uK ?_;refine gcL (ι:=Nat×Mem) (λ(d,md)=>(MLe mc md/\(d<=c/\∀u,u<d->¬gM (gl L u) (gl L c) 0 1),[(0,vL),(6,vI ↑c),(7,vI ↑d)],[],md,c-d)) (0,mc) ?_ ?_
  · exact⟨mle,by omega,λu h=>by omega⟩
  rintro⟨d,md⟩ ⟨ea,ff,bl⟩
  refine xC ?_;refine gc8 (λbq=>?_) λbq=>?_
  ·
   refine go5 ?_;refine zJ 9 _ [] [(0,.q),(1,.q),(2,.q),(3,.q),(4,.q),(5,.q),(6,.q),(7,.q),(8,.c)] yA nX zor nX (λr hr=>hr) (go2 ?_);refine wX I (xI [] c underlying76 uN rL) λep cu=>(wX I (xA uN cu) λeo ct=>(go2 ?_));refine wX I (xI [] d underlying76 uN rL) λen cq=>(wX I (xA uN cq) λem cp=>?_);refine w_c I (sC (ev2 I I) call130 (λw hs=>zJO hs ct cp oM (by first|omega|assumption|exact Nat.le_trans (Nat.not_lt.1 (hE _ oM)) dC) (by first|omega|assumption|exact Nat.le_trans (Nat.not_lt.1 (hE _ oM)) dC)) λcd h1 M co=>?_);obtain rfl:cd=vB (gM (L.getD c []) (L.getD d []) 0 1):=co;refine gc2 (λZ=>?_) λZ=>?_
   ·
    refine k7 ?_;refine wL I I I ?_;refine⟨_,?_,(Rp.Is.cast (oU _) (by exact(show vW L 0 1=32/\sD L 0 1=[] from zQ1 oM hE hS ⟨d,c,by omega,by omega,eE Z⟩).2.symm))⟩;rw[(show vW L 0 1=32/\sD L 0 1=[] from zQ1 oM hE hS ⟨d,c,by omega,by omega,eE Z⟩).1]
   refine go8 ?_;refine gqL ((d+1),h1) ?_ ?_
   · exact⟨mle,by omega,vH (Q:=λu=>¬gM (gl L u) (gl L c) 0 1) bl (λe=>Z (eE e))⟩
   omega
  refine qI ?_;refine gqL ((c+1),md) ?_ ?_
  · exact⟨mle,by omega,zU7 ak bl oM⟩
  omega
 have hX:∀a b,b<L.length->a<b->¬gM (gl L a) (gl L b) 0 1:=λa b hb ha=>ak a b oM ha;refine oW ?_;refine xM 3 1 ?_;have au:=RL.nil (ρ:=rpI) (h:=mc);refine gcL (ι:=Nat×List Int×Value×List Value×Mem) (λ(f,H,C,D,mf)=>(MLe mc mf/\(RL rpI mf D H/\(f<=L.length/\H.length=f)/\∀u,u<f->H.getD u (0:Int)=pZ L 0 1 u),[(0,vL),(8,C),(9,vI ↑f)],[.gs 3 1 C H.length D],mf,L.length-f)) (0,([]:List Int),(.slice none 0 0),[],mc) ?_ ?_
 · exact⟨mle,au,⟨by omega,I⟩,λu h=>by omega⟩
 rintro⟨f,H,C,D,mf⟩ ⟨dz,J,⟨fe,bk⟩,ao⟩
 refine xC ?_;refine gc9 (λbp=>?_) λbp=>?_
 ·
  refine go9 ?_;refine jI (ι:=Int×Mem) (λ(p,mp)=>MLe mf mp/\((-1<=p/\p<9223372036854775808)/\p=pZ L 0 1 f)) (λ(p,mp)=>[(0,vL),(8,C),(9,vI ↑f),(10,vI p)]) (λ(p,mp)=>[.gs 3 1 C H.length D]) (λ(p,mp)=>mp) ?_ ?_
  ·
   refine go4 ?_;refine lX (xI [] f underlying76 uN rL) λel cn=>(lX (xA uN cn) λek cm=>(cL (ev1 I) call131 (λw hs=>pM hs cm oM (by first|omega|assumption|exact Nat.le_trans (Nat.not_lt.1 (hE _ oM)) dC)) λej h1 M cl=>(cL (ev1 I) call48 (λw hs=>qC hs cl dC) λcc h2 an ck=>?_)));obtain rfl:cc=vI (yV (uP (L.getD f []) 0 1 (L.getD f []).length)):=ck;have dh:=xG (uP (L.getD f []) 0 1 (L.getD f []).length);refine gc3 (λae=>?_) λae=>?_
   ·
    refine go3 ?_;refine cL (ev2 I I) call132 (λw hs=>zL4 (f:=f) hs rL.up (by first|omega|assumption|exact Nat.le_trans (Nat.not_lt.1 (hE _ oM)) dC) (by first|omega|assumption|exact Nat.le_trans (Nat.not_lt.1 (hE _ oM)) dC) oM (by first|omega|assumption|exact Nat.le_trans (Nat.not_lt.1 (hE _ oM)) dC)) λcb h3 bj cj=>?_;obtain rfl:cb=vI (tR L 0 1 f L.length):=cj;have di:=zB2 L 0 1 f L.length;refine go2 ?_;refine zS ((tR L 0 1 f L.length),h3) ?_ e4z I I;refine⟨((M.trans an).trans bj),?_⟩;exact⟨⟨by omega,by omega⟩,yG2 ae⟩
   refine go1 ?_;refine zS ((-1:Int),h2) ?_ e4z I I;refine⟨(M.trans an),?_⟩;exact⟨⟨by omega,by omega⟩,yG1 hF (hS f oM) ae⟩
  rintro⟨p,mp⟩ ⟨dy,bm⟩
  refine xC ?_;obtain⟨fd,bh⟩:=bm;refine go3 ?_;refine zK (zO (ρ:=rpI) (m:=1) (xs:=[p]) (ps':=[(0,_)]) underlying22 gK I I I wM e2z (zG I (Pc.arr (Pc.here _) (0:Int) 0 dC) (jA oM oM) zR) zoj nP) I I I ?_
  rintro ei ey ⟨ee,rfl,aw⟩
  refine yC (A:=[]) (ρ:=rpI) aw ?_;intro h1 M ar;refine xR (A:=[]) (zV (ρ:=rpI) (bytes:=8) underlying22 gK I I I I nP I I J.up ar bO bO) I I I ?_
  rintro ca ew ⟨bw,rfl,av⟩
  refine go9 ?_;refine gqL ((f+1),(H++[p]),ca,bw,h1) ?_ ?_
  · exact⟨mle,av,⟨by omega,(zII bk ao bh).1⟩,(zII bk ao bh).2⟩
  omega
 have hO:∀u,u<L.length->H.getD u (0:Int)=pZ L 0 1 u:=λu hu=>ao u oM;have bi:H.length=L.length:=by omega
 refine qE ?_;refine gcL (ι:=Nat×Mem) (λ(v,am)=>(MLe mf am/\(v<=L.length/\∀a,a<v->¬eO L 0 1 a/\∀b,b<L.length->¬zBW L 0 1 a b),[(0,vL),(8,C),(11,vI ↑v)],[.gs 3 1 C H.length D],am,L.length-v)) (0,mf) ?_ ?_
 · exact⟨mle,by omega,λa h=>by omega⟩
 rintro⟨v,am⟩ ⟨dj,fa,ai⟩
 refine xC ?_;refine gc9 (λbo=>?_) λbo=>?_
 ·
  refine go9 ?_;refine lX (xI [] v underlying76 uN rL) λeh ci=>(lX (xA uN ci) λeg ch=>(cL (ev1 I) call131 (λw hs=>pM hs ch oM (by first|omega|assumption|exact Nat.le_trans (Nat.not_lt.1 (hE _ oM)) dC)) λef h1 M cg=>(cL (ev1 I) call48 (λw hs=>qC hs cg dC) λbz h2 an cf=>?_)));obtain rfl:bz=vI (yV (uP (L.getD v []) 0 1 (L.getD v []).length)):=cf;have df:=xG (uP (L.getD v []) 0 1 (L.getD v []).length);refine gc3 (λU=>?_) λU=>?_
  ·
   refine go9 ?_;refine gqL ((v+1),h2) ?_ ?_
   · exact⟨mle,by omega,vH (Q:=λa=>¬eO L 0 1 a/\∀b,b<L.length->¬zBW L 0 1 a b) ai (yHC (yIB hF (hS v oM) U))⟩
   omega
  refine go8 ?_;refine gcL (ι:=Nat×Mem) (λ(w,mw)=>(MLe h2 mw/\((w<=L.length/\(0<w->¬eO L 0 1 v))/\∀b,b<w->¬zBW L 0 1 v b),[(0,vL),(8,C),(11,vI ↑v),(12,vI ↑w)],[.gs 3 1 C H.length D],mw,L.length-w)) (0,h2) ?_ ?_
  · exact⟨mle,⟨by omega,λh=>by omega⟩,λb h=>by omega⟩
  rintro⟨w,mw⟩ ⟨dw,⟨ez,db⟩,ah⟩
  refine xC ?_;refine gc9 (λbn=>?_) λbn=>?_
  ·
   refine go5 ?_;refine zJ 33 _ [] [(0,.q),(1,.q),(2,.q),(3,.q),(4,.q),(5,.q),(6,.q),(7,.q),(8,.q),(9,.q),(10,.q),(11,.q),(12,.q),(13,.q),(14,.q),(15,.q),(16,.q),(17,.q),(18,.q),(19,.q),(20,.q),(21,.q),(22,.q),(23,.q),(24,.q),(25,.q),(26,.q),(27,.q),(28,.q),(29,.c),(30,.q),(31,.q),(32,.q)] yA nX (wP zor) nX (λr hr=>hr) (go2 ?_);refine w_q I (λh' L' hh hR=>(xN v (hR _ mh0) underlying22 sizeOf3 I I I bO nP).cv (show _=zM 1 C ((v*1+0)) from congrArg (zM 1 C) zo0)) I (bH (F:=λv_=>rpI.Is mw v_ (H.getD v (0:Int))) I (wZ ty3 (Pc.arr (Pc.here _) (0:Int) v bO) I nP I J.up I) (sS mh0) I ?_);intro dv be;obtain⟨rfl,dm,de⟩:=kM be;refine go2 ?_;refine jT ((H.getD v (0:Int))<(0:Int)) (λad=>?_) (λad=>?_)
   ·
    rw[xT ad];refine go23 ?_;refine w_c I (yGP I I I (go22 ?_));refine wL I I I ?_;refine⟨_,?_,(Rp.Is.cast (oU _) (by exact(show vW L 0 1=33/\sD L 0 1=[] from zDV oM hE hS hX (.inl ⟨v,by omega,zQ8 U (hO v oM) zoz⟩)).2.symm))⟩;rw[(show vW L 0 1=33/\sD L 0 1=[] from zDV oM hE hS hX (.inl ⟨v,by omega,zQ8 U (hO v oM) zoz⟩)).1]
   rw[yM ad];refine yS I I I (λh' L' hh hR=>yY I) I (yS I I I (λh' L' hh hR=>yY I) I (go1 ?_));refine yS I I I (λh' L' hh hR=>yY I) I ?_;refine jT ((↑w:Int)≠(↑v:Int)) (λac=>?_) (λac=>?_)
   ·
    rw[xT ac];refine yS I I I (λh' L' hh hR=>yY I) I (yS I I I (λh' L' hh hR=>yY I) I (yS I I I (λh' L' hh hR=>(xN w (hR _ mh0) underlying22 sizeOf3 I I I bO nP).cv (show _=zM 1 C ((w*1+0)) from congrArg (zM 1 C) zo0)) I (lY (F:=λv_=>rpI.Is mw v_ (H.getD w (0:Int))) I I I (wZ ty3 (Pc.arr (Pc.here _) (0:Int) w bO) I nP I J.up I) (sS mh0) I ?_)));intro du bd;obtain⟨rfl,dl,dd⟩:=kM bd;refine yS I I I (λh' L' hh hR=>yY I) I (yS I I I (λh' L' hh hR=>yY I) I (yS I I I (λh' L' hh hR=>(xN v (hR _ mh0) underlying22 sizeOf3 I I I bO nP).cv (show _=zM 1 C ((v*1+0)) from congrArg (zM 1 C) zo0)) I (lY (F:=λv_=>rpI.Is mw v_ (H.getD v (0:Int))) I I I (wZ ty3 (Pc.arr (Pc.here _) (0:Int) v bO) I nP I J.up I) (sS mh0) I ?_)));intro dt bc;obtain⟨rfl,dk,dc⟩:=kM bc;refine go2 ?_;refine yS I I I (λh' L' hh hR=>yY I) I ?_;refine jT ((H.getD w (0:Int))=(H.getD v (0:Int))) (λab=>?_) (λab=>?_)
    ·
     rw[xT ab];refine yS I I I (λh' L' hh hR=>yY I) I (yS I I I (λh' L' hh hR=>yY I) I (oX I (xI [] w underlying76 uN rL) λdr bb=>(oX I (xA uN bb) λdq ba=>(yS I I I (λh' L' hh hR=>yY I) I (yS I I I (λh' L' hh hR=>yY I) I (oX I (xI [] v underlying76 uN rL) λdp az=>(oX I (xA uN az) λdn ay=>?_)))))));refine w_c I (zBX I I (sC (ev2 I I) call133 (λw hs=>zC6 hs ba ay oM (by first|omega|assumption|exact Nat.le_trans (Nat.not_lt.1 (hE _ oM)) dC) (by first|omega|assumption|exact Nat.le_trans (Nat.not_lt.1 (hE _ oM)) dC)) λap h3 bj ax=>?_));obtain rfl:ap=vI (wiZ (L.getD w []) (L.getD v []) 0 1):=ax;have bx:=mZ (L.getD w []) (L.getD v []) 0 1 (L.getD v []).length;refine gc5 (λO=>?_) λO=>?_
     ·
      have aj:zBW L 0 1 v w:=⟨⟨⟨by omega,by have:=zAT (hO v oM) zoz;rw[<-hO v oM];omega⟩,by rw[<-hO w oM,<-hO v oM];assumption⟩,O⟩;refine k7 ?_;refine wL I I I ?_;refine⟨_,?_,(Rp.Is.cast (oU _) (by exact(show vW L 0 1=33/\sD L 0 1=[] from zDV oM hE hS hX (.inr ⟨v,w,by omega,by omega,aj⟩)).2.symm))⟩;rw[(show vW L 0 1=33/\sD L 0 1=[] from zDV oM hE hS hX (.inr ⟨v,w,by omega,by omega,aj⟩)).1]
     refine go8 ?_;refine gqL ((w+1),h3) ?_ ?_
     · exact⟨mle,⟨by omega,λ_=>zAT (hO v oM) zoz⟩,vH (Q:=λb=>¬zBW L 0 1 v b) ah (λe=>O e.2)⟩
     omega
    rw[yM ab];refine go8 ?_;refine w_c I (mD I I I I (sG ?_));refine gqL ((w+1),mw) ?_ ?_
    · exact⟨mle,⟨by omega,λ_=>zAT (hO v oM) zoz⟩,vH (Q:=λb=>¬zBW L 0 1 v b) ah (λe=>absurd e.1.2 (by rw[<-hO w oM,<-hO v oM];assumption))⟩
    omega
   rw[yM ac];refine uK ?_;refine yS I I I (λh' L' hh hR=>yY I) I (go8 ?_);refine w_c I (mD I I I I (sG ?_));refine gqL ((w+1),mw) ?_ ?_
   · exact⟨mle,⟨by omega,λ_=>zAT (hO v oM) zoz⟩,vH (Q:=λb=>¬zBW L 0 1 v b) ah (λe=>absurd e.1.1.1 oM)⟩
   omega
  refine qI ?_;refine gqL ((v+1),mw) ?_ ?_
  · exact⟨mle,by omega,vH (Q:=λa=>¬eO L 0 1 a/\∀b,b<L.length->¬zBW L 0 1 a b) ai ⟨db oM,λb hb=>ah b oM⟩⟩
  omega
 have hB:∀a b,a<L.length->b<L.length->¬zBW L 0 1 a b:=λa b ha hb=>(ai a oM).2 b hb;have hL:∀a,a<L.length->¬eO L 0 1 a:=λa ha=>(ai a oM).1;refine pQ ?_;refine vZ (A:=[]) (ρ:=rpI) J.up ?_;intro h1 M aq;refine wL I I I ?_;refine⟨_,?_,(Rp.Is.cast aq (by exact(show vW L 0 1=0/\sD L 0 1=H from zXN oM hE hS hX hL hB bi hO).2.symm))⟩;rw[(show vW L 0 1=0/\sD L 0 1=H from zXN oM hE hS hX hL hB bi hO).1]
theorem zAO{m l k:Nat}{vs:Value}{s:Pq}(rs:(tPl m l).Is h0 vs s){vp:Value}{p:Tq}(rp:(tPt k).Is h0 vp p)(hcd0:k<=100000000)(hcd1:l<=100000000)(hcd2:m<=100000000):
 Calls Tryz.prog 147 #[vs,vp] w0 (Ret w0 h0 (λ_ r=>r=vI (sdZ s p))):=by
 refine cb2 12 vs vp func147 hs ?_;refine go2 ?_;refine nB rs λb2 ad C=>(nB rp λb3 ac H=>(go4 ?_));refine zJ 8 _ [] [(0,.q),(1,.q),(2,.q),(4,.q),(5,.q),(3,.c),(6,.c),(7,.q)] yA nX zor nX (λr hr=>hr) (go1 ?_);refine wX I (xB zL (Pc.fst pH) C) λv6 r6=>(wX I (xB zL pH H) λv7 r7=>(go1 ?_));refine wX I (xB yD (Pc.snd pH) C) λZ O=>?_;refine w_c I (sC (ev2 I I) call120 (λw hs=>zDU hs r6 r7 oM) λv8 h1 ab J=>?_);replace J:=Rp.Is.le J (Le.q (l:=3*k+3*m+9) oM);refine w_c I (sC (ev2 I I) call182 (λw hs=>aO hs J O.up oM) λD h2 aa M=>?_);obtain rfl:D=vI (xS (zE s.1 p) s.2):=M;have U:=qV (zE s.1 p) s.2;refine go4 ?_;refine zC I I ?_;exact congrArg vI (zVS s p)
theorem zTT{m l k:Nat}{vs:Value}{s:Pq}(rs:(tPl m l).Is h0 vs s){vp:Value}{p:Tq}(rp:(tPt k).Is h0 vp p)(hcd0:k<=100000000)(hcd1:l<=100000000)(hcd2:m<=100000000):
 Calls Tryz.prog 108 #[vs,vp] w0 (Ret w0 h0 (λ_ r=>r=vI (sdZ s p))):=by
 refine cb2 61 vs vp func108 hs ?_;refine go2 ?_;refine nB rs λb2 da D=>(nB rp λb3 cz J=>(pP ?_));refine fL (go2 ?_);refine gv (OpV.tr dC (yJ (q:=3) I I)) I (zYU ?_);refine lX (xB yD (Pc.fst (Pc.tx pH)) D) λcl bh=>(cL (ev1 I) call146 (λw hs=>tA hs bh) λci h1 cy be=>?_);obtain rfl:=be;refine qI ?_;refine lX (xB yD (Pc.tx pH) J) λcf bb=>(cL (ev1 I) call146 (λw hs=>tA hs bb) λcc h2 cw ay=>?_);obtain rfl:=ay;refine qE ?_;refine gU 4 36 (vB ((¬(smB s.1.x))\/(¬(smB p.x)))) ?_ ?_
 ·
  refine zW (¬(smB s.1.x)) (λH=>?_) (λH=>?_)
  ·
   refine gT H I (go4 ?_);refine gqU ?_;exact congrArg some (vS H)
  refine gF H I (go6 ?_);refine gqU ?_;exact congrArg some (vT H)
 refine gc2 (λC=>?_) λC=>?_
 ·
  refine go2 ?_;refine lX (xB aV pH D) λbz av=>(lX (xB zL pH J) λbv aq=>(cL (ev2 I I) call147 (λw hs=>zAO hs av aq oM oM oM) λab h3 cp an=>?_));obtain rfl:ab=vI (sdZ s p):=an;have bm:=bN s p;refine uK ?_;refine zC I I ?_
  rfl
 obtain⟨bi,bo⟩:=zI7 C;refine go6 ?_;refine gv (gJ I I oM oM) I (go6 ?_);refine gv ((zQ (q:=1) I I oM oM).cv (show _=vI (1) from I)) I (go2 ?_);refine wI (go2 ?_);refine gv (OpV.tr dC (yJ (q:=3) I I)) I (zYU ?_);refine lX (xB yD (Pc.fst (Pc.ty pH)) D) λck bg=>(cL (ev1 I) call146 (λw hs=>tA hs bg) λch h3 cp bd=>?_);obtain rfl:=bd;refine qI ?_;refine lX (xB yD (Pc.ty pH) J) λce ba=>(cL (ev1 I) call146 (λw hs=>tA hs ba) λcb h4 cu ax=>?_);obtain rfl:=ax;refine qE ?_;refine gU 4 36 (vB ((¬(smB s.1.y))\/(¬(smB p.y)))) ?_ ?_
 ·
  refine zW (¬(smB s.1.y)) (λH=>?_) (λH=>?_)
  ·
   refine gT H I (go4 ?_);refine gqU ?_;exact congrArg some (vS H)
  refine gF H I (go6 ?_);refine gqU ?_;exact congrArg some (vT H)
 refine gc2 (λC=>?_) λC=>?_
 ·
  refine go2 ?_;refine lX (xB aV pH D) λbx au=>(lX (xB zL pH J) λbu ap=>(cL (ev2 I I) call147 (λw hs=>zAO hs au ap oM oM oM) λaa h5 co am=>?_));obtain rfl:aa=vI (sdZ s p):=am;have bl:=bN s p;refine uK ?_;refine zC I I ?_
  rfl
 obtain⟨bi,bo⟩:=zI7 C;refine go6 ?_;refine gv (gJ I I oM oM) I (go6 ?_);refine gv ((zQ (q:=1) I I oM oM).cv (show _=vI (2) from I)) I (go2 ?_);refine wI (go2 ?_);refine gv (OpV.tr dC (yJ (q:=3) I I)) I (zYU ?_);refine lX (xB yD (Pc.fst (Pc.tz pH)) D) λcj bf=>(cL (ev1 I) call146 (λw hs=>tA hs bf) λcg h5 co bc=>?_);obtain rfl:=bc;refine qI ?_;refine lX (xB yD (Pc.tz pH) J) λcd az=>(cL (ev1 I) call146 (λw hs=>tA hs az) λca h6 ct aw=>?_);obtain rfl:=aw;refine qE ?_;refine gU 4 36 (vB ((¬(smB s.1.z))\/(¬(smB p.z)))) ?_ ?_
 ·
  refine zW (¬(smB s.1.z)) (λH=>?_) (λH=>?_)
  ·
   refine gT H I (go4 ?_);refine gqU ?_;exact congrArg some (vS H)
  refine gF H I (go6 ?_);refine gqU ?_;exact congrArg some (vT H)
 refine gc2 (λC=>?_) λC=>?_
 ·
  refine go2 ?_;refine lX (xB aV pH D) λbw ar=>(lX (xB zL pH J) λbt ao=>(cL (ev2 I I) call147 (λw hs=>zAO hs ar ao oM oM oM) λZ h7 cn ak=>?_));obtain rfl:Z=vI (sdZ s p):=ak;have bk:=bN s p;refine uK ?_;refine zC I I ?_
  rfl
 obtain⟨bi,bo⟩:=zI7 C;refine go6 ?_;refine gv (gJ I I oM oM) I (go6 ?_);refine gv ((zQ (q:=1) I I oM oM).cv (show _=vI (3) from I)) I (go2 ?_);refine wI (go2 ?_);refine gv (OpV.fa dC (yJ (q:=3) I I)) I (qE ?_);refine lX (xB yD (Pc.snd pH) D) λbs aj=>(cL (ev1 I) call146 (λw hs=>tA hs aj) λbr h7 cn ai=>?_);obtain rfl:=ai;refine sG ?_;refine cnd (λM=>?_) λM=>?_
 ·
  refine go2 ?_;refine lX (xB aV pH D) λbq ah=>(lX (xB zL pH J) λbp ae=>(cL (ev2 I I) call147 (λw hs=>zAO hs ah ae oM oM oM) λU h8 cm ad=>?_));obtain rfl:U=vI (sdZ s p):=ad;have bj:=bN s p;refine go5 ?_;refine zC I I ?_
  rfl
 have bn:=Classical.not_not.1 M;have cq:=sQ bn;refine go7 ?_;refine cL (ev1 I) call148 (λw hs=>zH5 hs oM oM) λO h8 cm ac=>?_;obtain rfl:O=vI (zGY (((((0:Int)+((smZ s.1.x)*(smZ p.x)))+((smZ s.1.y)*(smZ p.y)))+((smZ s.1.z)*(smZ p.z)))-(smZ s.2))):=ac;refine go4 ?_;refine zC I I ?_;exact congrArg vI (zVR zoz zoz zoz bn)
end
end Go.Proofs.YtpkaegemlpaenaaGreat
namespace Bk
open Classical
def ag(x p y q:Rat)(u:PI):P2:=(x+p*(u.1:Rat),y+q*(u.2:Rat))
theorem zIV{x p:Rat}{u v:Int}(hp:0<p):x+p*(u:Rat)<x+p*(v:Rat)↔u<v:=by
 constructor
 · intro h
   refine Int.not_le.1 λe=>?_;have h1:(v:Rat)<=(u:Rat):=Rat.intCast_le_intCast.2 e;have h2:=Rat.mul_le_mul_of_nonneg_left h1 (Rat.le_of_lt hp);grind
 · intro h
   have h1:(u:Rat)<(v:Rat):=Rat.intCast_lt_intCast.2 h;have h2:=Rat.mul_lt_mul_of_pos_left h1 hp;grind
theorem zP8{x p:Rat}{u v:Int}(hp:0<p):x+p*(u:Rat)=x+p*(v:Rat)↔u=v:=by
 constructor
 · intro h
   rcases Int.lt_trichotomy u v with h1|h1|h1
   · have:=(zIV (x:=x) hp).2 h1;grind
   · exact h1
   · have:=(zIV (x:=x) hp).2 h1;grind
 · rintro rfl;rfl
variable {x p y q:Rat}
theorem yEL(u v w:PI):cr (ag x p y q u) (ag x p y q v) (ag x p y q w)=p*q*((crI u v w:Int):Rat):=by
 unfold cr ag crI;simp only[Rat.intCast_sub,Rat.intCast_mul];grind
theorem xD(hp:0<p)(hq:0<q):0<p*q:=by
 have:=Rat.mul_lt_mul_of_pos_left hq hp;grind
theorem zZ4(hp:0<p)(hq:0<q)(u v w:PI):orZ (ag x p y q u) (ag x p y q v) (ag x p y q w)=orI u v w:=by
 unfold orZ orI;rw[yEL,iA (xD hp hq),mC]
 rfl
theorem yEJ(hp:0<p)(hq:0<q)(u v:PI):lx (ag x p y q u) (ag x p y q v)↔lxI u v=true:=by
 unfold lx lxI;rw[decide_eq_true_iff];unfold ag;simp only[zIV hp,zIV hq,zP8 hp]
theorem yEK(hp:0<p)(hq:0<q)(u v:PI):ag x p y q u=ag x p y q v↔u=v:=by
 obtain⟨D,C⟩:=u;obtain⟨v1,v2⟩:=v;unfold ag;rw[Prod.mk.injEq,Prod.mk.injEq,zP8 hp,zP8 hq]
theorem yEM{a b c d:Int}(hp:0<p):kB (x+p*(a:Rat)) (x+p*(b:Rat)) (x+p*(c:Rat)) (x+p*(d:Rat))↔apI a b c d=true:=by
 unfold kB apI;rw[decide_eq_true_iff];simp only[zIV hp]
theorem zZ6{c:Prop} [Decidable c](u v:PI):(if c then ag x p y q u else ag x p y q v)=ag x p y q (if c then u else v):=by split<;>rfl
theorem yL2(hp:0<p)(hq:0<q)(a b c d:PI):eH (ag x p y q a) (ag x p y q b) (ag x p y q c) (ag x p y q d)=alS a b c d:=by
 unfold eH alS;simp only[yEJ hp hq,zZ6,yEK hp hq]
theorem zNO(hp:0<p)(hq:0<q)(a b c d:PI):fR (ag x p y q a) (ag x p y q b) (ag x p y q c) (ag x p y q d)=toI a b c d:=by
 have D:kB (ag x p y q a).1 (ag x p y q b).1 (ag x p y q c).1 (ag x p y q d).1↔apI a.1 b.1 c.1 d.1=true:=yEM hp;have C:kB (ag x p y q a).2 (ag x p y q b).2 (ag x p y q c).2 (ag x p y q d).2↔apI a.2 b.2 c.2 d.2=true:=yEM hq;unfold fR toI lT alI lo2 hi2;simp only[zZ4 hp hq,D,C,yEJ hp hq,zZ6,yL2 hp hq]
def gI(s:List PI)(m:Nat):PI:=s.getD m (0,0)
def zSP(s:List PI):Bool:=decide (3<=s.length)&&(List.range s.length).all λb=>(List.range b).all λa=>!decide (gI s a=gI s b)&&decide (toI (gI s a) (gI s ((a+1)%s.length)) (gI s b) (gI s ((b+1)%s.length))=waI s.length a b)
theorem zE0(hp:0<p)(hq:0<q){l:List Pt}{s:List PI}(hl:l.length=s.length)(h:∀m,m<s.length->pr (gp l m) 0 1=ag x p y q (gI s m))(hb:zSP s=true):aE l 0 1:=by
 unfold zSP at hb;rw[Bool.and_eq_true,decide_eq_true_iff,zob] at hb;obtain⟨h3,hb⟩:=hb;have g:∀a b,a<b->b<s.length->¬gI s a=gI s b/\toI (gI s a) (gI s ((a+1)%s.length)) (gI s b) (gI s ((b+1)%s.length))=waI s.length a b:=λa b C D=>by
  have h1:=zob.1 (hb b (zog.2 D)) a (zog.2 C);rw[Bool.and_eq_true,Bool.not_eq_true',decide_eq_false_iff_not,decide_eq_true_iff] at h1;exact h1
 refine⟨by omega,λa b J C H=>?_,λa b J C H=>?_⟩
 · show ¬pr (gp l a) 0 1=pr (gp l b) 0 1
   rw[h a zoq,h b zoq,yEK hp hq];exact(g a b C zoq).1
 · show fR (wV l 0 1 a) (wU l 0 1 a) (wV l 0 1 b) (wU l 0 1 b)=zHH l.length a b
   unfold wV wU;rw[hl,h a zoq,h b zoq,h _ (Nat.mod_lt _ zoq),h _ (Nat.mod_lt _ zoq),zNO hp hq];exact(g a b C zoq).2
theorem zFR{P:List Pt}(hs:aE P 0 1)(hl:P.length<=64)(ha:0<yV (arZ P 0 1)):vW [P] 0 1=0:=by
 have D:∀m,m<[P].length->gl [P] m=P:=λm C=>by
  rw[show m=0 by rw[List.length_singleton] at C;omega];rfl
 unfold vW;rw[if_neg (λe=>by
  rcases e with e|⟨m,C,e⟩
  · rw[List.length_singleton] at e;omega
  · rw[D m C] at e;omega),if_neg (λe=>by
  obtain⟨m,C,e⟩:=e;rw[D m C] at e;exact e hs),if_neg (λe=>by
  obtain⟨a,b,J,H,_⟩:=e;rw[List.length_singleton] at H;omega),if_neg (λe=>by
  rcases e with⟨k,hk,e⟩|⟨a,b,ha',hb',e⟩
  · rw[eO,D k hk] at e;exact e.1 ha
  · rw[List.length_singleton] at ha' hb'
    exact e.1.1.1 zoq)]
theorem zQX(u v w:P2):0<orZ u v w↔0<cr u v w:=aF
theorem zW1(u v w:P2):orZ u v w<0↔cr u v w<0:=qZ
theorem zRS{a b p:P2}(h:a.2=b.2):¬uO a b p:=λe=>e.1 (by rw[h])
theorem yC0{a b p:P2}(h:a.1=b.1)(hu:a.2<b.2):uO a b p↔(a.2<=p.2/\p.2<b.2)/\p.1<a.1:=by
 have e:cr a b p=(b.2-a.2)*(a.1-p.1):=by unfold cr;rw[<-h];grind
 have hd:0<b.2-a.2:=by grind
 have g:0<cr a b p↔p.1<a.1:=by
  rw[e];constructor
  · intro k
    refine Rat.not_le.1 λC=>?_;have:0<=(b.2-a.2)*(p.1-a.1):=zod (Rat.le_of_lt hd) zow;grind
  · intro k
    exact xD hd zow
 have D:cr a b p<0↔a.1<p.1:=by
  rw[e];constructor
  · intro k
    refine Rat.not_le.1 λC=>?_;have:0<=(b.2-a.2)*(a.1-p.1):=zod (Rat.le_of_lt hd) zow;grind
  · intro k
    have:=xD hd (show 0<p.1-a.1 by grind);grind
 unfold uO;rw[zQX,zW1,g,D];constructor
 · rintro⟨h1,h2⟩
   rcases h2 with⟨h3,h4⟩|⟨h3,h4⟩
   · exact⟨⟨h3,Rat.not_le.1 λk=>h1 ⟨λ_=>k,λ_=>h3⟩⟩,h4⟩
   · exact absurd ⟨λ_=>h3,λ_=>by grind⟩ h1
 · rintro⟨⟨h1,h2⟩,h3⟩
   exact⟨λk=>absurd (k.1 h1) (Rat.not_le.2 h2),.inl ⟨h1,h3⟩⟩
theorem yC1{a b p:P2}(h:a.1=b.1)(hu:b.2<a.2):uO a b p↔(b.2<=p.2/\p.2<a.2)/\p.1<a.1:=by
 have e:cr a b p= -((a.2-b.2)*(a.1-p.1)):=by unfold cr;rw[<-h];grind
 have hd:0<a.2-b.2:=by grind
 have g:cr a b p<0↔p.1<a.1:=by
  rw[e];constructor
  · intro k
    refine Rat.not_le.1 λC=>?_;have:0<=(a.2-b.2)*(p.1-a.1):=zod (Rat.le_of_lt hd) zow;grind
  · intro k
    have:=xD hd (show 0<a.1-p.1 by grind);grind
 have D:0<cr a b p↔a.1<p.1:=by
  rw[e];constructor
  · intro k
    refine Rat.not_le.1 λC=>?_;have:0<=(a.2-b.2)*(a.1-p.1):=zod (Rat.le_of_lt hd) zow;grind
  · intro k
    have:=xD hd (show 0<p.1-a.1 by grind);grind
 unfold uO;rw[zQX,zW1,g,D];constructor
 · rintro⟨h1,h2⟩
   rcases h2 with⟨h3,h4⟩|⟨h3,h4⟩
   · exact absurd ⟨λ_=>by grind,λ_=>h3⟩ h1
   · exact⟨⟨h3,Rat.not_le.1 λk=>h1 ⟨λ_=>h3,λ_=>k⟩⟩,h4⟩
 · rintro⟨⟨h1,h2⟩,h3⟩
   exact⟨λk=>absurd (k.2 h1) (Rat.not_le.2 h2),.inr ⟨h1,h3⟩⟩
def rcP(x y X Y:Rat):List P2:=[(x,y),(X,y),(X,Y),(x,Y)]
def yGT(l:List Pt)(i j:Nat)(x y X Y:Rat):Prop:=l.length=4/\∃r,r<4/\∀m,m<4->pr (gp l m) i j=(rcP x y X Y).getD ((m+r)%4) (0,0)
variable {x y X Y:Rat}
theorem yKW{a b p:P2}(h:a.2=b.2):onS a b p↔p.2=a.2/\qP a.1 b.1 p.1:=by
 unfold onS;constructor
 · rintro⟨h1,h2,h3⟩
   unfold qP at h2;exact⟨by grind,h1⟩
 · rintro⟨h1,h2⟩
   refine⟨h2,?_,?_⟩
   · unfold qP;grind
   · unfold cr;grind
theorem yKV{a b p:P2}(h:a.1=b.1):onS a b p↔p.1=a.1/\qP a.2 b.2 p.2:=by
 unfold onS;constructor
 · rintro⟨h1,h2,h3⟩
   unfold qP at h1;exact⟨by grind,h2⟩
 · rintro⟨h1,h2⟩
   refine⟨?_,h2,?_⟩
   · unfold qP;grind
   · unfold cr;grind
def bdP(x y X Y:Rat)(p:P2):Prop:=(x<=p.1/\p.1<=X/\y<=p.2/\p.2<=Y)/\¬(x<p.1/\p.1<X/\y<p.2/\p.2<Y)
def zPV(x y X Y:Rat)(p:P2):Prop:=x<p.1/\p.1<X/\y<p.2/\p.2<Y
theorem zYF{l:List Pt}{i j:Nat}{p:P2}(hx:x<X)(hy:y<Y)(h:yGT l i j x y X Y):gA l p i j=if bdP x y X Y p then 0 else if zPV x y X Y p then 1 else -1:=by
 obtain⟨U,r,hr,hm⟩:=h;have hA:∀m,m<4->wV l i j m=(rcP x y X Y).getD ((m+r)%4) (0,0):=hm;have hB:∀m,m<4->wU l i j m=(rcP x y X Y).getD ((m+1+r)%4) (0,0):=λm h4=>by
  unfold wU;rw[U,hm _ (Nat.mod_lt _ zot)]
  congr 1
  omega
 have M:(∃m,m<l.length/\onS (wV l i j m) (wU l i j m) p)↔bdP x y X Y p:=by
  have O:(∃m,m<l.length/\onS (wV l i j m) (wU l i j m) p)↔(onS (x,y) (X,y) p\/onS (X,y) (X,Y) p\/onS (X,Y) (x,Y) p\/onS (x,Y) (x,y) p):=by
   rw[U];constructor
   · rintro⟨m,h4,C⟩
     rw[hA m h4,hB m h4] at C;have e:(m+1+r)%4=((m+r)%4+1)%4:=by omega
     rw[e] at C;generalize hq:(m+r)%4=q at C;have:q=0\/q=1\/q=2\/q=3:=by omega
     rcases this with rfl|rfl|rfl|rfl
     · exact .inl C
     · exact .inr (.inl C)
     · exact .inr (.inr (.inl C))
     · exact .inr (.inr (.inr C))
   · have g:∀q,q<4->onS ((rcP x y X Y).getD q (0,0)) ((rcP x y X Y).getD ((q+1)%4) (0,0)) p->∃m,m<4/\onS (wV l i j m) (wU l i j m) p:=λq hq C=>by
      refine⟨(q+4-r)%4,Nat.mod_lt _ zot,?_⟩;rw[hA _ (Nat.mod_lt _ zot),hB _ (Nat.mod_lt _ zot),show((q+4-r)%4+r)%4=q by omega,show((q+4-r)%4+1+r)%4=(q+1)%4 by omega];exact C
     rintro(C|C|C|C)
     · exact g 0 zot C
     · exact g 1 zot C
     · exact g 2 zot C
     · exact g 3 zot C
  have o1:onS (x,y) (X,y) p↔p.2=y/\qP x X p.1:=yKW I;have o2:onS (X,y) (X,Y) p↔p.1=X/\qP y Y p.2:=yKV I;have o3:onS (X,Y) (x,Y) p↔p.2=Y/\qP X x p.1:=yKW I;have o4:onS (x,Y) (x,y) p↔p.1=x/\qP Y y p.2:=yKV I;rw[O,o1,o2,o3,o4];unfold qP bdP;constructor
  · rintro(⟨h1,h2⟩|⟨h1,h2⟩|⟨h1,h2⟩|⟨h1,h2⟩)<;>refine⟨⟨?_,?_,?_,?_⟩,?_⟩<;>grind
  · rintro⟨⟨a1,a2,a3,a4⟩,hn⟩
    by_cases e1:p.2=y
    · exact .inl ⟨e1,.inl ⟨a1,a2⟩⟩
    · by_cases e2:p.1=X
      · exact .inr (.inl ⟨e2,.inl ⟨a3,a4⟩⟩)
      · by_cases e3:p.2=Y
        · exact .inr (.inr (.inl ⟨e3,by grind⟩))
        · by_cases e4:p.1=x
          · exact .inr (.inr (.inr ⟨e4,by grind⟩))
          · exact absurd ⟨by grind,by grind,by grind,by grind⟩ hn
 have H:¬bdP x y X Y p->(jD l p i j l.length↔zPV x y X Y p):=by
  intro J;rw[U];have c0:¬uO ((rcP x y X Y).getD 0 (0,0)) ((rcP x y X Y).getD 1 (0,0)) p:=zRS I;have c1:uO ((rcP x y X Y).getD 1 (0,0)) ((rcP x y X Y).getD 2 (0,0)) p↔(y<=p.2/\p.2<Y)/\p.1<X:=yC0 (a:=(X,y)) (b:=(X,Y)) I hy;have c2:¬uO ((rcP x y X Y).getD 2 (0,0)) ((rcP x y X Y).getD 3 (0,0)) p:=zRS I;have c3:uO ((rcP x y X Y).getD 3 (0,0)) ((rcP x y X Y).getD 0 (0,0)) p↔(y<=p.2/\p.2<Y)/\p.1<x:=yC1 (a:=(x,Y)) (b:=(x,y)) I hy;have Z:zPV x y X Y p↔((y<=p.2/\p.2<Y)/\p.1<X)/\¬((y<=p.2/\p.2<Y)/\p.1<x):=by
   unfold bdP at J;unfold zPV;grind
  rw[Z,<-c1,<-c3];have D:∀n,jD l p i j (n+1)↔(uO (wV l i j n) (wU l i j n) p/\¬jD l p i j n)\/(¬uO (wV l i j n) (wU l i j n) p/\jD l p i j n):=λn=>Iff.rfl;have z:¬jD l p i j 0:=id;rw[D 3,D 2,D 1,D 0,hA 0 zot,hA 1 zot,hA 2 zot,hA 3 zot,hB 0 zot,hB 1 zot,hB 2 zot,hB 3 zot];have:r=0\/r=1\/r=2\/r=3:=by omega
  have aa:uO ((rcP x y X Y).getD 3 (0,0)) ((rcP x y X Y).getD 0 (0,0)) p->uO ((rcP x y X Y).getD 1 (0,0)) ((rcP x y X Y).getD 2 (0,0)) p:=λe=>c1.2 ⟨(c3.1 e).1,by have:=(c3.1 e).2;grind⟩
  rcases this with rfl|rfl|rfl|rfl<;>simp only[Nat.reduceAdd,Nat.reduceMod,c0,c2,z]<;>grind
 unfold gA
 by_cases J:bdP x y X Y p
 · rw[if_pos (M.2 J),if_pos J]
 · rw[if_neg λe=>J (M.1 e),if_neg J]
   by_cases hi:zPV x y X Y p
   · rw[if_pos ((H J).2 hi),if_pos hi]
   · rw[if_neg λe=>hi ((H J).1 e),if_neg hi]
def exI(h l2 h2 l3 h3:Rat):Prop:=0<h/\(l2<h/\h<h2)/\l3<h/\h<h3
def iH(h l2 h2 l3 h3:Rat):Prop:=0<h->(l2<=h/\h<=h2)->(l3<=h/\h<=h3)->(l2<h/\h<h2)/\l3<h/\h<h3
noncomputable def cW(p:Prop):Int:=if p then 1 else 0
theorem lE{p:Prop}(h:p):cW p=1:=if_pos h
theorem jZ{p:Prop}(h:¬p):cW p=0:=if_neg h
variable {l1 h1 l2 h2 l3 h3:Rat}
theorem yIJ(a1:l1<h1)(a2:l2<h2)(a3:l3<h3)(k1:iH h1 l2 h2 l3 h3)(k2:iH h2 l1 h1 l3 h3)(k3:iH h3 l1 h1 l2 h2):
 cW (exI h1 l2 h2 l3 h3)+cW (exI h2 l1 h1 l3 h3)+cW (exI h3 l1 h1 l2 h2)=cW ((0<h1/\0<h2/\0<h3)/\(l1<h2/\l1<h3)/\(l2<h1/\l2<h3)/\l3<h1/\l3<h2):=by
 by_cases hc:(0<h1/\0<h2/\0<h3)/\(l1<h2/\l1<h3)/\(l2<h1/\l2<h3)/\l3<h1/\l3<h2
 · rw[lE hc]
   obtain⟨⟨O,M,J⟩,⟨q1,q2⟩,⟨q3,q4⟩,q5,Z⟩:=hc
   by_cases e1:h1<=h2/\h1<=h3
   · have s:=k1 O ⟨by grind,e1.1⟩ ⟨by grind,e1.2⟩
     have H:exI h1 l2 h2 l3 h3:=⟨O,s⟩;have D:¬exI h2 l1 h1 l3 h3:=λe=>by unfold exI at e;grind
     have C:¬exI h3 l1 h1 l2 h2:=λe=>by unfold exI at e;grind
     rw[lE H,jZ D,jZ C];rfl
   · by_cases e2:h2<=h1/\h2<=h3
     · have s:=k2 M ⟨by grind,e2.1⟩ ⟨by grind,e2.2⟩
       have H:¬exI h1 l2 h2 l3 h3:=λe=>by unfold exI at e;grind
       have D:exI h2 l1 h1 l3 h3:=⟨M,s⟩;have C:¬exI h3 l1 h1 l2 h2:=λe=>by unfold exI at e;grind
       rw[jZ H,lE D,jZ C];rfl
     · have U:h3<=h1/\h3<=h2:=by grind
       have s:=k3 J ⟨by grind,U.1⟩ ⟨by grind,U.2⟩;have H:¬exI h1 l2 h2 l3 h3:=λe=>by unfold exI at e;grind
       have D:¬exI h2 l1 h1 l3 h3:=λe=>by unfold exI at e;grind
       have C:exI h3 l1 h1 l2 h2:=⟨J,s⟩;rw[jZ H,jZ D,lE C];rfl
 · have H:¬exI h1 l2 h2 l3 h3:=λe=>hc (by unfold exI at e;grind)
   have D:¬exI h2 l1 h1 l3 h3:=λe=>hc (by unfold exI at e;grind);have C:¬exI h3 l1 h1 l2 h2:=λe=>hc (by unfold exI at e;grind);rw[jZ H,jZ D,jZ C,jZ hc];rfl
def enI(l l2 h2 l3 h3:Rat):Prop:=0<l/\(l2<l/\l<h2)/\l3<l/\l<h3
theorem yIN(a1:l1<h1)(a2:l2<h2)(a3:l3<h3)(k1:iH l1 l2 h2 l3 h3)(k2:iH l2 l1 h1 l3 h3)(k3:iH l3 l1 h1 l2 h2):
 cW (enI l1 l2 h2 l3 h3)+cW (enI l2 l1 h1 l3 h3)+cW (enI l3 l1 h1 l2 h2)=cW ((0<l1\/0<l2\/0<l3)/\(l1<h2/\l1<h3)/\(l2<h1/\l2<h3)/\l3<h1/\l3<h2):=by
 by_cases hc:(0<l1\/0<l2\/0<l3)/\(l1<h2/\l1<h3)/\(l2<h1/\l2<h3)/\l3<h1/\l3<h2
 · rw[lE hc]
   obtain⟨p1,⟨q1,q2⟩,⟨Z,U⟩,O,M⟩:=hc
   by_cases e1:l2<=l1/\l3<=l1
   · have p:0<l1:=by grind
     have s:=k1 p ⟨e1.1,by grind⟩ ⟨e1.2,by grind⟩;have H:enI l1 l2 h2 l3 h3:=⟨p,s⟩;have D:¬enI l2 l1 h1 l3 h3:=λe=>by unfold enI at e;grind
     have C:¬enI l3 l1 h1 l2 h2:=λe=>by unfold enI at e;grind
     rw[lE H,jZ D,jZ C];rfl
   · by_cases e2:l1<=l2/\l3<=l2
     · have p:0<l2:=by grind
       have s:=k2 p ⟨e2.1,by grind⟩ ⟨e2.2,by grind⟩;have H:¬enI l1 l2 h2 l3 h3:=λe=>by unfold enI at e;grind
       have D:enI l2 l1 h1 l3 h3:=⟨p,s⟩;have C:¬enI l3 l1 h1 l2 h2:=λe=>by unfold enI at e;grind
       rw[jZ H,lE D,jZ C];rfl
     · have J:l1<=l3/\l2<=l3:=by grind
       have p:0<l3:=by grind
       have s:=k3 p ⟨J.1,by grind⟩ ⟨J.2,by grind⟩;have H:¬enI l1 l2 h2 l3 h3:=λe=>by unfold enI at e;grind
       have D:¬enI l2 l1 h1 l3 h3:=λe=>by unfold enI at e;grind
       have C:enI l3 l1 h1 l2 h2:=⟨p,s⟩;rw[jZ H,jZ D,lE C];rfl
 · have H:¬enI l1 l2 h2 l3 h3:=λe=>hc (by unfold enI at e;grind)
   have D:¬enI l2 l1 h1 l3 h3:=λe=>hc (by unfold enI at e;grind);have C:¬enI l3 l1 h1 l2 h2:=λe=>hc (by unfold enI at e;grind);rw[jZ H,jZ D,jZ C,jZ hc];rfl
theorem yHW(a1:l1<h1)(a2:l2<h2)(a3:l3<h3)(k1:iH h1 l2 h2 l3 h3)(k2:iH h2 l1 h1 l3 h3)(k3:iH h3 l1 h1 l2 h2)(m1:iH l1 l2 h2 l3 h3)(m2:iH l2 l1 h1 l3 h3)(m3:iH l3 l1 h1 l2 h2)
    (h0:l1<=0/\0<=h1->l2<=0/\0<=h2->l3<=0/\0<=h3->(l1<0/\0<h1)/\(l2<0/\0<h2)/\l3<0/\0<h3):
    cW (exI h1 l2 h2 l3 h3)+cW (exI h2 l1 h1 l3 h3)+cW (exI h3 l1 h1 l2 h2)-(cW (enI l1 l2 h2 l3 h3)+cW (enI l2 l1 h1 l3 h3)+cW (enI l3 l1 h1 l2 h2))=cW ((l1<0/\0<h1)/\(l2<0/\0<h2)/\l3<0/\0<h3):=by
 rw[yIJ a1 a2 a3 k1 k2 k3,yIN a1 a2 a3 m1 m2 m3]
 by_cases hm:(l1<h2/\l1<h3)/\(l2<h1/\l2<h3)/\l3<h1/\l3<h2
 · by_cases hp:0<h1/\0<h2/\0<h3
   · by_cases C:0<l1\/0<l2\/0<l3
     · have hi:¬((l1<0/\0<h1)/\(l2<0/\0<h2)/\l3<0/\0<h3):=λe=>by grind
       rw[lE ⟨hp,hm⟩,lE ⟨C,hm⟩,jZ hi];rfl
     · have hi:=h0 ⟨by grind,by grind⟩ ⟨by grind,by grind⟩ ⟨by grind,by grind⟩
       rw[lE ⟨hp,hm⟩,jZ λe=>C e.1,lE hi];rfl
   · have C:¬(0<l1\/0<l2\/0<l3):=λe=>by grind
     have hi:¬((l1<0/\0<h1)/\(l2<0/\0<h2)/\l3<0/\0<h3):=λe=>by grind
     rw[jZ λe=>hp e.1,jZ λe=>C e.1,jZ hi];rfl
 · have hi:¬((l1<0/\0<h1)/\(l2<0/\0<h2)/\l3<0/\0<h3):=λe=>hm zow
   rw[jZ λe=>hm e.2,jZ λe=>hm e.2,jZ hi];rfl
def zN1(p q:Pt):Prop:=p.x=q.x/\p.y=q.y
noncomputable def zBB(B:List Pt)(p:Pt):Nat->Int
  |0=>-1
  |j+1=>if zN1 (B.getD j zT) p then(j:Int) else zBB B p j
theorem zGF(B:List Pt)(p:Pt):∀j,-1<=zBB B p j/\zBB B p j<j\/(j=0/\zBB B p j= -1)
  |0=>.inr ⟨rfl,rfl⟩
  |j+1=>by
   have h:=zGF B p j;unfold zBB
   split
   · exact .inl zoq
   · exact .inl zoq
theorem fd_t{B:List Pt}{p:Pt}{j:Nat}(h:zN1 (B.getD j zT) p):(j:Int)=zBB B p (j+1):=(if_pos h).symm
theorem yII{B:List Pt}{p:Pt}{j:Nat}(h:¬zN1 (B.getD j zT) p):zBB B p j=zBB B p (j+1):=(if_neg h).symm
noncomputable def fdZ(B:List Pt)(p:Pt):Int:=zBB B p B.length
noncomputable def adB(B:List Pt)(p:Pt):List Pt:=if fdZ B p<0 then B++[p] else B
noncomputable def adN(B:List Pt)(p:Pt):Int:=if fdZ B p<0 then(B.length:Int) else fdZ B p
noncomputable def plB(B:List Pt)(x:List Pt):Nat->List Pt
  |0=>B
  |k+1=>adB (plB B x k) (x.getD k zT)
noncomputable def plN(B:List Pt)(x:List Pt):Nat->List Int:=qG λk=>adN (plB B x k) (x.getD k zT)
noncomputable def ptB(L:List (List Pt)):Nat->List Pt
  |0=>[]
  |i+1=>plB (ptB L i) (L.getD i []) (L.getD i []).length
noncomputable def ptN(L:List (List Pt)):Nat->List (List Int):=qG λi=>plN (ptB L i) (L.getD i []) (L.getD i []).length
def zBG(L:List (List Pt)):Nat->Nat
  |0=>0
  |i+1=>zBG L i+(L.getD i []).length
theorem yDA(B:List Pt)(p:Pt):(adB B p).length<=B.length+1:=by
 unfold adB;split
 · rw[lAz,List.length_singleton];exact Nat.le_refl _
 · omega
theorem zJD(B x:List Pt):∀k,(plB B x k).length<=B.length+k
  |0=>Nat.le_refl _
  |k+1=>by
   have h1:=zJD B x k;have h2:=yDA (plB B x k) (x.getD k zT)
   show(adB _ _).length<=_
   omega
theorem zQT(L:List (List Pt)):∀i,(ptB L i).length<=zBG L i
  |0=>Nat.le_refl _
  |i+1=>by
   have h1:=zQT L i;have h2:=zJD (ptB L i) (L.getD i []) (L.getD i []).length
   show(plB _ _ _).length<=zBG L i+_
   omega
theorem yD5{L:List (List Pt)}(h:∀m,m<L.length->(L.getD m []).length<=64):∀i,i<=L.length->zBG L i<=64*i
  |0,_=>Nat.le_refl _
  |i+1,hi=>by
   have h1:=yD5 h i zoq;have h2:=h i zoq
   show zBG L i+_<=_
   omega
theorem yBZ{L:List (List Pt)}(h:vW L 0 1=0):L.length<=16/\∀m,m<L.length->(L.getD m []).length<=64:=by
 unfold vW at h
 split at h
 · omega
 · rename_i h1
   exact⟨Nat.not_lt.1 λe=>h1 (.inl e),λm C=>Nat.not_lt.1 λe=>h1 (.inr ⟨m,C,e⟩)⟩
section
variable (L:List (List Pt))(lo hi:Rat)
noncomputable def bsZ:List Pt:=ptB L L.length
noncomputable def bxZ:List (List Int):=ptN L L.length
noncomputable def zWN:Nat->List Pt:=qG λi=>T3.mk ((bsZ L).getD (i%(bsZ L).length) zT).x ((bsZ L).getD (i%(bsZ L).length) zT).y (if((bsZ L).length:Int)<=(i:Int) then hi else lo)
noncomputable def ppZ:List Pt:=zWN L lo hi (2*(bsZ L).length)
noncomputable def yJC:Nat->List (List Int):=qG λi=>zLG ((bxZ L).getD i []) ((bxZ L).getD i []).length
noncomputable def tpL(i:Nat):Nat->List Int:=qG λk=>((bxZ L).getD i []).getD k 0+((bsZ L).length:Int)
noncomputable def yE9:Nat->List (List Int):=qG λi=>tpL L i ((bxZ L).getD i []).length
noncomputable def nmS(i k:Nat):List Nat:=[115]++qK (((i:Int):Int):Rat)++[46]++qK (((k:Int):Int):Rat)
noncomputable def sdA(i k:Nat):Int:=((bxZ L).getD i []).getD k 0
noncomputable def sdB(i k:Nat):Int:=((bxZ L).getD i []).getD ((k+1)%((bxZ L).getD i []).length) 0
noncomputable def sdN(i k:Nat):Pt:=T3.mk (((ppZ L lo hi).getD (sdB L i k).toNat zT).y-((ppZ L lo hi).getD (sdA L i k).toNat zT).y) (-(((ppZ L lo hi).getD (sdB L i k).toNat zT).x-((ppZ L lo hi).getD (sdA L i k).toNat zT).x)) (0:Rat)
noncomputable def sdF(i k:Nat):Fc:=((sdN L lo hi i k,zE (sdN L lo hi i k) ((ppZ L lo hi).getD (sdA L i k).toNat zT)),[[sdA L i k,sdB L i k,sdB L i k+((bsZ L).length:Int),sdA L i k+((bsZ L).length:Int)]],nmS i k)
noncomputable def sfX(i:Nat):Nat->List Fc:=qG λk=>sdF L lo hi i k
noncomputable def zSU:Nat->List Fc:=tN λi=>sfX L lo hi i ((bxZ L).getD i []).length
noncomputable def btF:Fc:=((T3.mk (0:Rat) (0:Rat) (-((1:Int):Rat)),-lo),yJC L (bxZ L).length,[98,111,116,116,111,109])
noncomputable def tpF:Fc:=((T3.mk (0:Rat) (0:Rat) ((1:Int):Rat),hi),yE9 L (bxZ L).length,[116,111,112])
noncomputable def prR:Sd:=(ppZ L lo hi,zSU L lo hi (bxZ L).length++[btF L lo,tpF L hi],[])
def prB:Prop:=512<2*(bsZ L).length\/256<zBG L L.length+2
noncomputable def prE:Int:=if ¬vW L 0 1=0 then vW L 0 1 else if ¬ouZ L=1 then 33 else if 0<=xS lo hi then 9 else if prB L then 2 else 0
noncomputable def prP:List Pt:=if prE L lo hi=0 then nrP (prR L lo hi) else[]
noncomputable def prF:List Fc:=if prE L lo hi=0 then nrF (prR L lo hi) else[]
end
section
variable {L:List (List Pt)}{lo hi:Rat}
theorem pr_0(h1:vW L 0 1=0)(h2:ouZ L=1)(h3:¬0<=xS lo hi)(h4:¬prB L):prE L lo hi=0/\prP L lo hi=nrP (prR L lo hi)/\prF L lo hi=nrF (prR L lo hi):=by
 have e:prE L lo hi=0:=by unfold prE;rw[if_neg (λe=>e h1),if_neg (λe=>e h2),if_neg h3,if_neg h4]
 exact⟨e,if_pos e,if_pos e⟩
theorem zQU{n:Int}(h:prE L lo hi=n)(hn:¬n=0):prE L lo hi=n/\prP L lo hi=[]/\prF L lo hi=[]:=⟨h,if_neg (by rw[h];exact hn),if_neg (by rw[h];exact hn)⟩
theorem pr_1(h1:¬vW L 0 1=0):prE L lo hi=vW L 0 1/\prP L lo hi=[]/\prF L lo hi=[]:=zQU (if_pos h1) h1
theorem yKT(h1:vW L 0 1=0)(h2:¬ouZ L=1):prE L lo hi=33/\prP L lo hi=[]/\prF L lo hi=[]:=zQU (by unfold prE;rw[if_neg (λe=>e h1),if_pos h2]) zot
theorem pr_9(h1:vW L 0 1=0)(h2:ouZ L=1)(h3:0<=xS lo hi):prE L lo hi=9/\prP L lo hi=[]/\prF L lo hi=[]:=zQU (by unfold prE;rw[if_neg (λe=>e h1),if_neg (λe=>e h2),if_pos h3]) zot
theorem pr_2(h1:vW L 0 1=0)(h2:ouZ L=1)(h3:¬0<=xS lo hi)(h4:prB L):prE L lo hi=2/\prP L lo hi=[]/\prF L lo hi=[]:=zQU (by unfold prE;rw[if_neg (λe=>e h1),if_neg (λe=>e h2),if_neg h3,if_pos h4]) zot
theorem zUP(B:List Pt)(p:Pt):0<=adN B p/\adN B p<(adB B p).length:=by
 have h:=zGF B p B.length;unfold adN adB fdZ
 split
 · rw[lAz,List.length_singleton];omega
 · omega
theorem yJS(B:List Pt)(p:Pt):B.length<=(adB B p).length:=by
 unfold adB;split
 · rw[lAz];omega
 · omega
theorem zWR(B x:List Pt){k n:Nat}(h:k<=n):(plB B x k).length<=(plB B x n).length:=by
 induction n with
 |zero=>rw[show k=0 by omega];exact Nat.le_refl _
 |succ n ih=>
  rcases Nat.lt_or_ge k (n+1) with h1|h1
  · exact Nat.le_trans (ih zoq) (yJS _ _)
  · rw[show k=n+1 by omega];exact Nat.le_refl _
theorem yGY{i n:Nat}(h:i<=n):(ptB L i).length<=(ptB L n).length:=by
 induction n with
 |zero=>rw[show i=0 by omega];exact Nat.le_refl _
 |succ n ih=>
  rcases Nat.lt_or_ge i (n+1) with h1|h1
  · exact Nat.le_trans (ih zoq) (zWR (ptB L n) (L.getD n []) (k:=0) (Nat.zero_le _))
  · rw[show i=n+1 by omega];exact Nat.le_refl _
theorem yJA:(bxZ L).length=L.length:=xK _ _
theorem zZN{i:Nat}(h:i<L.length):(bxZ L).getD i []=plN (ptB L i) (L.getD i []) (L.getD i []).length:=qY _ _ h
theorem zKS{i:Nat}(h:i<L.length):((bxZ L).getD i []).length=(L.getD i []).length:=by rw[zZN h];exact xK _ _
theorem zZM{i k:Nat}(h:i<L.length)(hk:k<((bxZ L).getD i []).length):0<=((bxZ L).getD i []).getD k 0/\((bxZ L).getD i []).getD k 0<↑(bsZ L).length:=by
 rw[zKS h] at hk;rw[zZN h];unfold plN;rw[qY _ _ hk];obtain⟨h1,h2⟩:=zUP (plB (ptB L i) (L.getD i []) k) ((L.getD i []).getD k zT);have h3:=zWR (ptB L i) (L.getD i []) (show k+1<=(L.getD i []).length from hk);have J:=yGY (L:=L) (show i+1<=L.length from h);have H:(plB (ptB L i) (L.getD i []) (k+1)).length=(adB (plB (ptB L i) (L.getD i []) k) ((L.getD i []).getD k zT)).length:=I;have D:(ptB L (i+1)).length=(plB (ptB L i) (L.getD i []) (L.getD i []).length).length:=I;have C:(bsZ L).length=(ptB L L.length).length:=I;exact⟨h1,by omega⟩
theorem yGZ:(ppZ L lo hi).length=2*(bsZ L).length:=xK _ _
theorem zVW{n:Nat}(hn:n<=L.length):(zSU L lo hi n).length=zBG L n:=by
 induction n with
 |zero=>rfl
 |succ n ih=>
  show List.length (zSU L lo hi n++sfX L lo hi n ((bxZ L).getD n []).length)=zBG L n+_
  rw[lAz,ih zoq,show(sfX L lo hi n ((bxZ L).getD n []).length).length=_ from xK _ _,zKS zoq]
end
def eW{α:Type}(f:α->α)(d:α)(A:List α):Nat->List α
  |0=>A
  |k+1=>(eW f d A k).set k (f ((eW f d A k).getD k d))
theorem iY{α:Type}(f:α->α)(d:α)(A:List α):∀k,(eW f d A k).length=A.length
  |0=>rfl
  |k+1=>by
   show List.length (List.set _ _ _)=_
   rw[lS];exact iY f d A k
theorem zEC{α:Type}(f:α->α)(d:α)(A:List α):∀k i,i<A.length->(eW f d A k).getD i d=if i<k then f (A.getD i d) else A.getD i d
  |0,i,_=>rfl
  |k+1,i,h=>by
   show(List.set _ k _).getD i d=_
   rw[zoa,List.getElem?_set]
   split
   · rename_i e
     subst e;rw[if_pos (by rw[iY];exact h),if_pos zoq,zEC f d A k k h,if_neg zoq];rfl
   · rename_i e
     rw[<-zoa,zEC f d A k i h]
     by_cases h1:i<k
     · rw[if_pos h1,if_pos zoq]
     · rw[if_neg h1,if_neg zoq]
theorem yAG{α:Type}(f:α->α)(d:α)(A:List α):eW f d A A.length=A.map f:=by
 refine List.ext_getElem (by rw[iY,List.length_map]) λi h1 h2=>?_;rw[iY] at h1;have:=zEC f d A A.length i h1;rw[if_pos h1,zoa,zoc (by rw[iY];exact h1)] at this;rw[zoa,zoc h1] at this;rw[List.getElem_map];exact this
noncomputable def rnN(n:List Nat):List Nat:=if n=[98,111,116,116,111,109] then[122,48] else if n=[116,111,112] then[122,49] else if n=[115,48,46,48] then[121,48] else if n=[115,48,46,49] then[120,49] else if n=[115,48,46,50] then[121,49] else if n=[115,48,46,51] then[120,48] else n
noncomputable def rnF(f:Fc):Fc:=(f.1,(f.2.1,rnN f.2.2))
theorem zNX{F F0:List Fc}{i:Nat}{nm:List Nat}(hF:F=eW rnF zA F0 i)(h:rnN (F.getD i zA).2.2=nm):F.set i ((F.getD i zA).1,((F.getD i zA).2.1,nm))=eW rnF zA F0 (i+1):=by
 subst hF;subst h;rfl
theorem yJX{F F0:List Fc}{i:Nat}(hF:F=eW rnF zA F0 i)(h:rnN (F.getD i zA).2.2=(F.getD i zA).2.2)(hi:i<F.length):F=eW rnF zA F0 (i+1):=by
 rw[<-zNX hF h]
 show F=F.set i (F.getD i zA)
 rw[zoa,zoc hi];exact(List.set_getElem_self hi).symm
section
variable (a b:Pt)
def iU:Prop:=∀u,u<3->¬0<=xS (a.at u) (b.at u)
def blL:List (List Pt):=[[T3.mk a.x a.y (0:Rat),T3.mk b.x a.y (0:Rat),T3.mk b.x b.y (0:Rat),T3.mk a.x b.y (0:Rat)]]
noncomputable def blG:List Fc:=eW rnF zA (prF (blL a b) a.z b.z) (prF (blL a b) a.z b.z).length
noncomputable def blS:Sd:=(prP (blL a b) a.z b.z,blG a b,[])
noncomputable def blP:List Pt:=if iU a b then nrP (blS a b) else[]
noncomputable def blF:List Fc:=if iU a b then nrF (blS a b) else[]
noncomputable def blE:Int:=if iU a b then prE (blL a b) a.z b.z else 9
def blH:Prop:=(∀x,x∈blL a b->aD x)/\(prE (blL a b) a.z b.z=0->okS (prR (blL a b) a.z b.z))/\okS (blS a b)
end
theorem yBN{L:List (List Pt)}{lo hi:Rat}(h:prE L lo hi=0->okS (prR L lo hi)):(prF L lo hi).length<=1000:=by
 unfold prF
 split
 · rename_i h0
   unfold nrF
   split
   · rw[zO8];exact(h h0).1.1.2
   · exact Nat.zero_le _
 · exact Nat.zero_le _
theorem bl_9{a b:Pt}(h:¬iU a b):blE a b=9/\blP a b=[]/\blF a b=[]:=⟨if_neg h,if_neg h,if_neg h⟩
theorem yC6{a b:Pt}(h:iU a b):blE a b=prE (blL a b) a.z b.z/\blP a b=nrP (blS a b)/\blF a b=nrF (blS a b):=⟨if_pos h,if_pos h,if_pos h⟩
theorem zRL{B:List Pt}{p:Pt}:∀j,(∀i,i<j->¬zN1 (B.getD i zT) p)->zBB B p j= -1
  |0,_=>rfl
  |j+1,h=>by
   rw[<-yII (h j zoq)];exact zRL j λi hi=>h i zoq
theorem yJR{B:List Pt}{p:Pt}(h:∀i,i<B.length->¬zN1 (B.getD i zT) p):adB B p=B++[p]/\adN B p=(B.length:Int):=by
 have h1:fdZ B p<0:=by unfold fdZ;rw[zRL _ h];decide
 exact⟨if_pos h1,if_pos h1⟩
def rgI:Nat->List Int:=qG λi=>(i:Int)
theorem zSH{l:List Pt}{i k:Nat}(h:i<k):(l.take k).getD i zT=l.getD i zT:=by
 rw[zoa,zoa,List.getElem?_take,if_pos h]
def zM6(l:List Pt):Prop:=∀i j,i<j->j<l.length->¬zN1 (l.getD i zT) (l.getD j zT)
theorem zOH{l:List Pt}(hd:zM6 l):∀k,k<=l.length->plB [] l k=l.take k/\plN [] l k=rgI k
  |0,_=>⟨rfl,rfl⟩
  |k+1,hk=>by
   obtain⟨h1,h2⟩:=zOH hd k zoq;have hl:(l.take k).length=k:=by rw[List.length_take];omega
   have C:∀i,i<(l.take k).length->¬zN1 ((l.take k).getD i zT) (l.getD k zT):=λi hi=>by
    rw[hl] at hi;rw[zSH hi];exact hd i k hi zoq
   obtain⟨h3,D⟩:=yJR C;refine⟨?_,?_⟩
   · show adB (plB [] l k) (l.getD k zT)=_
     rw[h1,h3];rw[zoa,zoc (show k<l.length by omega),List.take_succ_eq_append_getElem (show k<l.length by omega)];rfl
   · show plN [] l k++[adN (plB [] l k) (l.getD k zT)]=rgI k++[(k:Int)]
     rw[h2,h1,D,hl]
theorem zKT{l:List Pt}(hd:zM6 l):bsZ [l]=l:=by
 have h:=(zOH hd l.length (Nat.le_refl _)).1;rw[List.take_length] at h;exact h
theorem yI7{l:List Pt}(hd:zM6 l):bxZ [l]=[rgI l.length]:=congrArg (λz=>[z]) (zOH hd l.length (Nat.le_refl _)).2
theorem zOS{P:List Pt}(ha:0<yV (arZ P 0 1)):ouZ [P]=1:=if_pos ha
theorem yBP{l:List Pt}{lo hi:Rat}(hd:zM6 l)(hs:aE l 0 1)(hl:l.length<=64)(ha:0<yV (arZ l 0 1))(hlh:lo<hi):prE [l] lo hi=0:=by
 unfold prE;rw[if_neg (λe=>e (zFR hs hl ha)),if_neg (λe=>e (zOS ha)),if_neg (λe=>by unfold xS at e;grind),if_neg];unfold prB;rw[zKT hd];have h1:zBG [l] [l].length=0+l.length:=I;rw[h1];omega
section
variable {a b:Pt}
def bB(a b:Pt):List Pt:=[T3.mk a.x a.y (0:Rat),T3.mk b.x a.y (0:Rat),T3.mk b.x b.y (0:Rat),T3.mk a.x b.y (0:Rat)]
theorem zR4(h:iU a b):a.x<b.x/\a.y<b.y/\a.z<b.z:=by
 have g:∀{u v:Rat},¬0<=xS u v->u<v:=λ{u v} h=>Rat.not_le.1 λe=>h (by unfold xS;grind);exact⟨g (h 0 zot),g (h 1 zot),g (h 2 zot)⟩
theorem zBM(hx:a.x<b.x)(hy:a.y<b.y):zM6 (bB a b):=by
 intro i j H D;have C:j<4:=D;have:(i=0/\(j=1\/j=2\/j=3))\/(i=1/\(j=2\/j=3))\/(i=2/\j=3):=by omega
 rcases this with⟨rfl,rfl|rfl|rfl⟩|⟨rfl,rfl|rfl⟩|⟨rfl,rfl⟩<;>(intro e;have M:=e.1;have J:=e.2;simp only[bB,List.getD_cons_zero,List.getD_cons_succ] at M J;grind)
def uI:List PI:=[(0,0),(1,0),(1,1),(0,1)]
theorem yLX:∀m,m<uI.length->pr (gp (bB a b) m) 0 1=ag a.x (b.x-a.x) a.y (b.y-a.y) (gI uI m):=by
 intro m C;have H:m<4:=C;have e0:((0:Int):Rat)=0:=I;have D:((1:Int):Rat)=1:=I;have:m=0\/m=1\/m=2\/m=3:=by omega
 rcases this with rfl|rfl|rfl|rfl<;>(unfold ag;refine Prod.ext ?_ ?_<;>simp[pr,gp,bB,gI,uI,T3.at,e0,D]<;>grind)
theorem yJE(hx:a.x<b.x)(hy:a.y<b.y):aE (bB a b) 0 1:=zE0 (x:=a.x) (p:=b.x-a.x) (y:=a.y) (q:=b.y-a.y) (s:=uI) zow zow rfl yLX (by decide +kernel)
theorem yC8:arZ (bB a b) 0 1=2*((b.x-a.x)*(b.y-a.y)):=by
 unfold arZ;simp[uP,gp,bB,T3.at];grind
theorem zZV(hx:a.x<b.x)(hy:a.y<b.y):0<yV (arZ (bB a b) 0 1):=by
 rw[yC8,aF];have:=xD (p:=b.x-a.x) (q:=b.y-a.y) zow zow;grind
theorem zZS(h:iU a b):blE a b=0:=by
 obtain⟨hx,hy,hz⟩:=zR4 h;rw[(yC6 h).1];exact yBP (zBM hx hy) (yJE hx hy) (show 4<=64 by decide) (zZV hx hy) hz
def cB(a b:Pt)(x y z:Bool):Pt:=T3.mk (if x then b.x else a.x) (if y then b.y else a.y) (if z then b.z else a.z)
def pB0(a b:Pt):List Pt:=[cB a b false false false,cB a b true false false,cB a b true true false,cB a b false true false,cB a b false false true,cB a b true false true,cB a b true true true,cB a b false true true]
theorem zE3(hx:a.x<b.x)(hy:a.y<b.y):ppZ (blL a b) a.z b.z=pB0 a b:=by
 have h:bsZ (blL a b)=bB a b:=zKT (zBM hx hy);unfold ppZ zWN;rw[h]
 show qG _ 8=_
 have H:(bB a b).length=4:=I;have C:∀i:Nat,4<=i->(if((4:Nat):Int)<=(i:Int) then b.z else a.z)=b.z:=λi hi=>if_pos zoq;have D:∀i:Nat,i<4->(if((4:Nat):Int)<=(i:Int) then b.z else a.z)=a.z:=λi hi=>if_neg zoq;simp only[qG,List.nil_append,List.cons_append,H];rw[D 0 zot,D 1 zot,D 2 zot,D 3 zot,C 4 zot,C 5 zot,C 6 zot,C 7 zot]
 rfl
theorem zNL(hx:a.x<b.x)(hy:a.y<b.y):bxZ (blL a b)=[[0,1,2,3]]:=yI7 (zBM hx hy)
def sF(A B:Pt)(i j:Int)(nm:List Nat):Fc:=((T3.mk (B.y-A.y) (-(B.x-A.x)) (0:Rat),zE (T3.mk (B.y-A.y) (-(B.x-A.x)) (0:Rat)) A),[[i,j,j+4,i+4]],nm)
def bF0(a b:Pt):Fc:=((T3.mk (0:Rat) (0:Rat) (-((1:Int):Rat)),-a.z),[[3,2,1,0]],[98,111,116,116,111,109])
def tF0(a b:Pt):Fc:=((T3.mk (0:Rat) (0:Rat) ((1:Int):Rat),b.z),[[4,5,6,7]],[116,111,112])
noncomputable def fB0(a b:Pt):List Fc:=[sF (cB a b false false false) (cB a b true false false) 0 1 (nmS 0 0),sF (cB a b true false false) (cB a b true true false) 1 2 (nmS 0 1),sF (cB a b true true false) (cB a b false true false) 2 3 (nmS 0 2),sF (cB a b false true false) (cB a b false false false) 3 0 (nmS 0 3),bF0 a b,tF0 a b]
theorem zAG(hx:a.x<b.x)(hy:a.y<b.y){k:Nat}(hk:k<4):sdF (blL a b) a.z b.z 0 k=sF ((pB0 a b).getD k zT) ((pB0 a b).getD ((k+1)%4) zT) (k:Int) (((k+1)%4:Nat):Int) (nmS 0 k):=by
 have C:=zNL hx hy;have J:((bsZ (blL a b)).length:Int)=4:=by rw[show bsZ (blL a b)=bB a b from zKT (zBM hx hy)];rfl
 have H:sdA (blL a b) 0 k=(k:Int):=by
  unfold sdA;rw[C];have:k=0\/k=1\/k=2\/k=3:=by omega
  rcases this with rfl|rfl|rfl|rfl<;>rfl
 have D:sdB (blL a b) 0 k=(((k+1)%4:Nat):Int):=by
  unfold sdB;rw[C];have:k=0\/k=1\/k=2\/k=3:=by omega
  rcases this with rfl|rfl|rfl|rfl<;>rfl
 have M:sdN (blL a b) a.z b.z 0 k=T3.mk (((pB0 a b).getD ((k+1)%4) zT).y-((pB0 a b).getD k zT).y) (-(((pB0 a b).getD ((k+1)%4) zT).x-((pB0 a b).getD k zT).x)) (0:Rat):=by
  unfold sdN;rw[zE3 hx hy,H,D,Int.toNat_natCast,Int.toNat_natCast]
 unfold sdF;rw[M,zE3 hx hy,H,D,J,Int.toNat_natCast]
 rfl
theorem zLP(hx:a.x<b.x)(hy:a.y<b.y):prR (blL a b) a.z b.z=(pB0 a b,fB0 a b,[]):=by
 have C:=zNL hx hy;have D:((bsZ (blL a b)).length:Int)=4:=by rw[show bsZ (blL a b)=bB a b from zKT (zBM hx hy)];rfl
 unfold prR;rw[zE3 hx hy];refine congrArg (λz=>(pB0 a b,z,([]:List En))) ?_;have M:zSU (blL a b) a.z b.z (bxZ (blL a b)).length=[sdF (blL a b) a.z b.z 0 0,sdF (blL a b) a.z b.z 0 1,sdF (blL a b) a.z b.z 0 2,sdF (blL a b) a.z b.z 0 3]:=by
  rw[C]
  show[]++sfX (blL a b) a.z b.z 0 ((bxZ (blL a b)).getD 0 []).length=_
  rw[C];rfl
 have J:btF (blL a b) a.z=bF0 a b:=by
  unfold btF bF0 yJC;rw[C];rfl
 have H:tpF (blL a b) b.z=tF0 a b:=by
  unfold tpF tF0 yE9 tpL;rw[C,D];rfl
 rw[M,J,H,zAG hx hy zot,zAG hx hy zot,zAG hx hy zot,zAG hx hy zot]
 rfl
theorem t8{n:Nat}(h:n<10):qK (((n:Int):Int):Rat)=[48+n]:=by
 unfold qK;rw[Rat.num_intCast,Rat.den_intCast,if_neg zoq,if_pos bY,Int.natAbs_natCast]
 by_cases h0:n=0
 · subst h0;rfl
 · rw[yAJ h0 h];rfl
theorem yHD{k:Nat}(h:k<10):nmS 0 k=[115,48,46,48+k]:=by
 unfold nmS;rw[t8 (n:=0) zot,t8 h];rfl
end
def zDE(p:Nat->Bool):Nat->Nat
  |0=>0
  |k+1=>if p k then zDE p k else k+1
theorem zBK{P:Nat->Prop}{p:Nat->Bool}:∀n,(∀k,k<n->(P k↔p k=true))->aL P n=zDE p n
  |0,_=>rfl
  |n+1,h=>by
   have ih:=zBK n λk hk=>h k zoq;have h1:=h n zoq;unfold aL zDE;rw[ih]
   by_cases hp:P n
   · rw[if_pos hp,if_pos (h1.1 hp)]
   · rw[if_neg hp,if_neg (λe=>hp (h1.2 e))]
def usB(E:List E5)(i:Nat):Bool:=E.any λe=>decide (e.1=(i:Int))
theorem zU5(E:List E5)(i:Nat):zIY E E.length i↔usB E i=true:=by
 unfold usB;rw[List.any_eq_true];constructor
 · rintro⟨q,C,h⟩
   exact⟨_,kA C,decide_eq_true h⟩
 · rintro⟨e,D,h⟩
   obtain⟨q,C,rfl⟩:=List.getElem_of_mem D;refine⟨q,C,?_⟩;rw[zoa,zoc C];exact of_decide_eq_true h
def orB(E:List E5)(lt:Nat->Nat->Bool):Nat->List Int
  |0=>[]
  |i+1=>if usB E i then iN (orB E lt i) (zDE (λk=>lt i ((orB E lt i).getD k 0).toNat) (orB E lt i).length) (i:Int) else orB E lt i
theorem zOV{s:Sd}{lt:Nat->Nat->Bool}{n:Nat}(h:∀i k,i<n->k<n->(lsP (gp s.1 i) (gp s.1 k)↔lt i k=true)):∀i,i<=n->aH s i=orB (edZ (wR s)) lt i
  |0,_=>rfl
  |i+1,hi=>by
   have ih:=zOV h i zoq;unfold aH orB;have hb:aL (zTB s (aH s i) i) (aH s i).length=zDE (λk=>lt i ((orB (edZ (wR s)) lt i).getD k 0).toNat) (orB (edZ (wR s)) lt i).length:=by
    rw[<-ih];refine zBK _ λk hk=>?_;have:=oH hk;exact h i _ zoq zoq
   rw[hb,ih]
   by_cases hu:zIY (edZ (wR s)) (edZ (wR s)).length i
   · rw[if_pos hu,if_pos ((zU5 _ _).1 hu)]
   · rw[if_neg hu,if_neg (λe=>hu ((zU5 _ _).2 e))]
abbrev B3:=Bool×Bool×Bool
def lt3(u v:B3):Bool:=(!u.1&&v.1)||(u.1==v.1&&((!u.2.1&&v.2.1)||(u.2.1==v.2.1&&(!u.2.2&&v.2.2))))
def cU(a b:Pt)(u:B3):Pt:=cB a b u.1 u.2.1 u.2.2
variable {a b:Pt}
theorem zT3(hx:a.x<b.x)(hy:a.y<b.y)(hz:a.z<b.z)(u v:B3):lsP (cU a b u) (cU a b v)↔lt3 u v=true:=by
 obtain⟨D,C,u3⟩:=u;obtain⟨v1,v2,v3⟩:=v
 cases D<;>cases C<;>cases u3<;>cases v1<;>cases v2<;>cases v3<;>simp[lsP,cU,cB,lt3]<;>grind
theorem yI3(hx:a.x<b.x)(hy:a.y<b.y)(hz:a.z<b.z){u v:B3}(h:cU a b u=cU a b v):u=v:=by
 obtain⟨D,C,u3⟩:=u;obtain⟨v1,v2,v3⟩:=v;have h1:=congrArg T3.x h;have h2:=congrArg T3.y h;have h3:=congrArg T3.z h
 cases D<;>cases C<;>cases u3<;>cases v1<;>cases v2<;>cases v3<;>first|rfl|(exfalso;simp[cU,cB] at h1 h2 h3;grind)
def uB0:List B3:=[(false,false,false),(true,false,false),(true,true,false),(false,true,false),(false,false,true),(true,false,true),(true,true,true),(false,true,true)]
theorem oF:pB0 a b=uB0.map (cU a b):=rfl
theorem zA5{l:List B3}{i:Nat}(h:i<l.length):gp (l.map (cU a b)) i=cU a b (l.getD i (false,false,false)):=by
 unfold gp;rw[zoa,zoa,List.getElem?_map,zoc h];rfl
theorem zHY(hx:a.x<b.x)(hy:a.y<b.y)(hz:a.z<b.z){l:List B3}{F:List Fc}{E:List En}:fI (l.map (cU a b),F,E)=orB (edZ (wR (l.map (cU a b),F,E))) (λi k=>lt3 (l.getD i (false,false,false)) (l.getD k (false,false,false))) l.length:=by
 unfold fI;rw[show(l.map (cU a b),F,E).1.length=l.length from List.length_map _];refine zOV (n:=l.length) (λi k hi hk=>?_) _ (Nat.le_refl _)
 show lsP (gp (l.map (cU a b)) i) (gp (l.map (cU a b)) k)↔_
 rw[zA5 hi,zA5 hk];exact zT3 hx hy hz _ _
theorem iM:wR (pB0 a b,fB0 a b,[])=[[[0,1,5,4]],[[1,2,6,5]],[[2,3,7,6]],[[3,0,4,7]],[[3,2,1,0]],[[4,5,6,7]]]:=rfl
theorem zLX(hx:a.x<b.x)(hy:a.y<b.y)(hz:a.z<b.z):fI (pB0 a b,fB0 a b,[])=[0,4,3,7,1,5,2,6]:=by
 rw[oF,zHY hx hy hz,<-oF,iM]
 decide +kernel
theorem bM{α:Type}{p:Nat->Prop}{g:Nat->α}:∀{n},(∀i,i<n->¬p i)->cO p g n=[]
  |0,_=>rfl
  |n+1,h=>by
   rw[<-zAF (h n zoq)];exact bM λi hi=>h i zoq
theorem zCL{α:Type}{g:Nat->List α}:∀{n},(∀i,i<n->g i=[])->tN g n=[]
  |0,_=>rfl
  |n+1,h=>by
   show tN g n++g n=[]
   rw[h n zoq,zCL λi hi=>h i zoq];rfl
def tmB(E:List E5)(a b:Int):Nat->Int
  |0=>0
  |m+1=>if(E.getD m ((0:Int),(0:Int),(0:Int),(0:Int),(0:Int))).1=a/\(E.getD m ((0:Int),(0:Int),(0:Int),(0:Int),(0:Int))).2.1=b then tmB E a b m+1 else tmB E a b m
theorem zNY(E:List E5)(a b:Int):∀m,eX E a b m=tmB E a b m
  |0=>rfl
  |m+1=>by
   unfold eX tmB;rw[zNY E a b m]
   by_cases h:zM9 (E.getD m ((0:Int),(0:Int),(0:Int),(0:Int),(0:Int))) a b
   · rw[if_pos h];exact(if_pos h).symm
   · rw[if_neg h];exact(if_neg h).symm
def clB(E:List E5):Bool:=(List.range E.length).all λi=>!decide (tmB E (E.getD i ((0:Int),(0:Int),(0:Int),(0:Int),(0:Int))).2.1 (E.getD i ((0:Int),(0:Int),(0:Int),(0:Int),(0:Int))).1 E.length<tmB E (E.getD i ((0:Int),(0:Int),(0:Int),(0:Int),(0:Int))).1 (E.getD i ((0:Int),(0:Int),(0:Int),(0:Int),(0:Int))).2.1 E.length)
theorem yEC{F:List (List (List Int))}(hv:vaP F)(h:clB (edZ F)=true):clZ F=[]:=by
 unfold clZ;rw[if_pos hv];unfold yI1;refine bM λi hi=>?_;have h1:=zob.1 h i (zog.2 hi);rw[Bool.not_eq_true',decide_eq_false_iff_not] at h1;unfold yCU tmZ;rw[zNY,zNY];exact h1
theorem yDM{s:Sd}(hb:¬zNM s)(hf:∀f,f<s.2.1.length->vfP (s.2.1.getD f zA).2.1/\nmP s f):szZ s=[]:=by
 unfold szZ;rw[if_neg hb];exact bM λf C e=>by
  rcases e with e|e
  · exact e (hf f C).1
  · exact e (hf f C).2
theorem yDJ{s:Sd}(h:∀i k,k<i->i<s.1.length->¬gp s.1 i=gp s.1 k):zK2 s s.1.length=[]:=bM λi hi e=>by
 obtain⟨k,hk,e⟩:=e;exact h i k hk hi e
theorem yDQ{s:Sd}(hz:∀f,f<s.2.1.length->¬(s.2.1.getD f zA).1.1=zT)(ho:∀f,f<s.2.1.length->∀l,l<(xE s f).length->∀k,k<(gl (xE s f) l).length->sdZ (s.2.1.getD f zA).1 (gp (gl (xE s f) l) k)=0):plZ s=[]:=by
 have h1:zSB s s.2.1.length=[]:=bM λf hf e=>hz f hf e;have h2:zOW s s.2.1.length=[]:=zCL λf hf=>zCL λl C=>bM λk hk e=>e (ho f hf l C k hk);unfold plZ;rw[h1,h2];rfl
theorem yDV{s:Sd}(h:∀f,f<s.2.1.length->vW (gC s f) 0 1=0/\ouZ (gC s f)=1):neZ s=[]:=by
 have h1:zZR s s.2.1.length=[]:=bM λf hf e=>e (h f hf).1;have h2:yHF s s.2.1.length=[]:=bM λf hf e=>e (h f hf).2;unfold neZ;rw[h1,h2];rfl
theorem zQK{s:Sd}(h1:szZ s=[])(h2:zK2 s s.1.length=[])(h3:plZ s=[])(h4:neZ s=[])(h5:clZ (wR s)=[]):kZ s:=by
 unfold kZ zZJ;rw[h1,h2,h3,h4,h5];rfl
theorem yLO{s:Sd}{f:Nat}{i j k l:Int}(hf:f<s.2.1.length)(hn:nmP s f)(hl:(s.2.1.getD f zA).2.1=[[i,j,k,l]]):xE s f=[[gp s.1 i.toNat,gp s.1 j.toNat,gp s.1 k.toNat,gp s.1 l.toNat]]:=by
 rw[zP0 hf hn,hl];unfold zGJ;rw[hl];rfl
theorem zRI{s:Sd}{f:Nat}{A B C D:Pt}(h:xE s f=[[A,B,C,D]]):gC s f=[[uW (s.2.1.getD f zA).1 A,uW (s.2.1.getD f zA).1 B,uW (s.2.1.getD f zA).1 C,uW (s.2.1.getD f zA).1 D]]:=by
 unfold gC;rw[h];rfl
theorem yGR{x p y q:Rat}(hp:0<p)(hq:0<q){l:List Pt}{t:List PI}(ht:t=[(0,0),(1,0),(1,1),(0,1)]\/t=[(1,0),(1,1),(0,1),(0,0)]\/t=[(1,1),(0,1),(0,0),(1,0)]\/t=[(0,1),(0,0),(1,0),(1,1)])
    (hl:l=t.map λu=>T3.mk (x+p*(u.1:Rat)) (y+q*(u.2:Rat)) (0:Rat)):vW [l] 0 1=0/\ouZ [l]=1:=by
 have U:t.length=4:=by rcases ht with rfl|rfl|rfl|rfl<;>rfl
 have D:l.length=t.length:=by rw[hl,List.length_map]
 have J:∀m,m<t.length->pr (gp l m) 0 1=ag x p y q (gI t m):=λm H=>by
  rw[hl];unfold gp gI;rw[zoa,zoa,List.getElem?_map,zoc H]
  rfl
 have hs:aE l 0 1:=zE0 hp hq D J (by rcases ht with rfl|rfl|rfl|rfl<;>decide +kernel);have e0:((0:Int):Rat)=0:=I;have O:((1:Int):Rat)=1:=I;have M:arZ l 0 1=2*(p*q):=by
  unfold arZ
  rcases ht with rfl|rfl|rfl|rfl<;>(subst hl;simp[uP,gp,T3.at,e0,O];grind)
 have C:0<yV (arZ l 0 1):=by
  rw[M,aF];have:=xD hp hq;grind
 exact⟨zFR hs zoq C,zOS C⟩
abbrev Dir:=Nat×Bool
def dI:Dir->Nat
  |(2,true)=>0|(2,false)=>1|(1,true)=>2|(1,false)=>0|(_,true)=>1|(_,false)=>2
def dJ:Dir->Nat
  |(2,true)=>1|(2,false)=>0|(1,true)=>0|(1,false)=>2|(_,true)=>2|(_,false)=>1
def dN(d:Dir)(c:Rat):Pt:=(zT).set d.1 (if d.2 then c else -c)
def zUO(u:B3):Nat->Bool
  |0=>u.1|1=>u.2.1|_=>u.2.2
def bI(x:Bool):Int:=if x then 1 else 0
def pI2(d:Dir)(u:B3):PI:=(bI (zUO u (dI d)),bI (zUO u (dJ d)))
variable {a b:Pt}
theorem yEE(u:B3)(i:Nat):(cU a b u).at i=if zUO u i then b.at i else a.at i:=by
 obtain⟨D,C,u3⟩:=u
 match i with
 |0=>rfl
 |1=>rfl
 |n+2=>rfl
theorem zZK(u:B3)(i:Nat):(cU a b u).at i=a.at i+(b.at i-a.at i)*((bI (zUO u i):Int):Rat):=by
 rw[yEE];have e0:((0:Int):Rat)=0:=I;have C:((1:Int):Rat)=1:=I;unfold bI
 split
 · rw[C];grind
 · rw[e0];grind
theorem zKV{d:Dir}{c:Rat}(hd:d.1<3)(hc:0<c):axI (dN d c)=dI d/\axJ (dN d c)=dJ d/\¬dN d c=zT:=by
 obtain⟨C,D⟩:=d;have h3:C=0\/C=1\/C=2:=by have:C<3:=hd;omega
 have J:¬dN (C,D) c=zT:=λe=>by
  have h1:=congrArg T3.x e;have h2:=congrArg T3.y e;have H:=congrArg T3.z e
  rcases h3 with rfl|rfl|rfl<;>cases D<;>simp[dN,T3.set] at h1 h2 H<;>grind
 refine⟨?_,?_,J⟩
 · rcases h3 with rfl|rfl|rfl<;>cases D<;>simp[dN,T3.set,axI,dI]<;>grind
 · rcases h3 with rfl|rfl|rfl<;>cases D<;>simp[dN,T3.set,axJ,dJ]<;>grind
def zEG(d:Dir)(us:List B3):Bool:=(us.all λu=>zUO u d.1==d.2)&&(decide (us.map (pI2 d)=[(0,0),(1,0),(1,1),(0,1)])||decide (us.map (pI2 d)=[(1,0),(1,1),(0,1),(0,0)])||decide (us.map (pI2 d)=[(1,1),(0,1),(0,0),(1,0)])||decide (us.map (pI2 d)=[(0,1),(0,0),(1,0),(1,1)]))
theorem zRK{d:Dir}{c o:Rat}(hd:d.1<3)(hc:0<c)(u:B3):uW (dN d c,o) (cU a b u)=T3.mk (a.at (dI d)+(b.at (dI d)-a.at (dI d))*(((pI2 d u).1:Int):Rat)) (a.at (dJ d)+(b.at (dJ d)-a.at (dJ d))*(((pI2 d u).2:Int):Rat)) (0:Rat):=by
 unfold uW;rw[(zKV hd hc).1,(zKV hd hc).2.1,zZK,zZK];rfl
theorem zIJ{d:Dir}{c o:Rat}(hd:d.1<3)(hc:0<c)(h:∀i,a.at i<b.at i){us:List B3}(ht:zEG d us=true):vW [us.map λu=>uW (dN d c,o) (cU a b u)] 0 1=0/\ouZ [us.map λu=>uW (dN d c,o) (cU a b u)]=1:=by
 unfold zEG at ht;simp only[Bool.and_eq_true,Bool.or_eq_true,decide_eq_true_iff] at ht;refine yGR (x:=a.at (dI d)) (p:=b.at (dI d)-a.at (dI d)) (y:=a.at (dJ d)) (q:=b.at (dJ d)-a.at (dJ d)) (t:=us.map (pI2 d)) (by have:=h (dI d);grind) (by have:=h (dJ d);grind) ?_ ?_
 · rcases ht.2 with((h1|h1)|h1)|h1
   · exact .inl h1
   · exact .inr (.inl h1)
   · exact .inr (.inr (.inl h1))
   · exact .inr (.inr (.inr h1))
 · rw[List.map_map]
   exact List.map_congr_left λu _=>zRK hd hc u
theorem zUD{d:Dir}{c:Rat}(hd:d.1<3){u:B3}(hu:zUO u d.1=d.2):sdZ (dN d c,(if d.2 then c else -c)*(if d.2 then b.at d.1 else a.at d.1)) (cU a b u)=0:=by
 unfold sdZ hgt;have e:=yEE (a:=a) (b:=b) u d.1;rw[hu] at e;obtain⟨C,D⟩:=d;have h3:C=0\/C=1\/C=2:=by have:C<3:=hd;omega
 have h0:zE (dN (C,D) c) (cU a b u)=(if D then c else -c)*(cU a b u).at C:=by
  rcases h3 with rfl|rfl|rfl<;>(simp only[zE,dN,T3.set,T3.at];grind)
 rw[h0,e];refine if_pos ?_
 show _*_-_*_=(0:Rat)
 grind
abbrev u0:B3:=(false,false,false)
def mV(a b:Pt)(us:List B3)(d:Dir)(f:Fc):Prop:=
 d.1<3/\∃c,0<c/\f.1=(dN d c,(if d.2 then c else -c)*(if d.2 then b.at d.1 else a.at d.1))/\∃i j k l:Nat,f.2.1=[[(i:Int),(j:Int),(k:Int),(l:Int)]]/\(i<us.length/\j<us.length/\k<us.length/\l<us.length)/\zEG d [us.getD i u0,us.getD j u0,us.getD k u0,us.getD l u0]=true
section
variable {us:List B3}{F:List Fc}
theorem zZP{d:Dir}{f:Nat}(h:mV a b us d (F.getD f zA)):nmP (us.map (cU a b),F,[]) f:=by
 obtain⟨_,c,_,_,i,j,k,l,U,⟨h1,h2,h3,Z⟩,_⟩:=h;intro m O q M
 show 0<=_/\_<(((us.map (cU a b)).length:Nat):Int)
 rw[List.length_map];have D:m<((F.getD f zA).2.1).length:=O;have C:q<(((F.getD f zA).2.1).getD m []).length:=M
 show 0<=(((F.getD f zA).2.1).getD m []).getD q 0/\(((F.getD f zA).2.1).getD m []).getD q 0<_
 rw[U] at D C ⊢;have H:m=0:=by have:m<1:=D;omega
 subst H;have J:q<4:=C;have:q=0\/q=1\/q=2\/q=3:=by omega
 rcases this with rfl|rfl|rfl|rfl
 · show 0<=(i:Int)/\(i:Int)<_;omega
 · show 0<=(j:Int)/\(j:Int)<_;omega
 · show 0<=(k:Int)/\(k:Int)<_;omega
 · show 0<=(l:Int)/\(l:Int)<_;omega
theorem zBL{d:Dir}{f:Nat}(hf:f<F.length)(h:mV a b us d (F.getD f zA)):∃vs:List B3,zEG d vs=true/\vs.length=4/\xE (us.map (cU a b),F,[]) f=[vs.map (cU a b)]:=by
 have C:=zZP h;obtain⟨_,c,_,_,i,j,k,l,D,⟨h1,h2,h3,H⟩,ht⟩:=h;refine⟨[us.getD i u0,us.getD j u0,us.getD k u0,us.getD l u0],ht,I,?_⟩;rw[yLO (s:=(us.map (cU a b),F,[])) hf C D]
 show[[gp (us.map (cU a b)) _,gp (us.map (cU a b)) _,gp (us.map (cU a b)) _,gp (us.map (cU a b)) _]]=_
 rw[Int.toNat_natCast,Int.toNat_natCast,Int.toNat_natCast,Int.toNat_natCast,zA5 h1,zA5 h2,zA5 h3,zA5 H];rfl
theorem zKU(h:a.x<b.x/\a.y<b.y/\a.z<b.z)(hn:∀i k,k<i->i<us.length->¬us.getD i u0=us.getD k u0)(hu:us.length<=512/\F.length<=256)(hF:∀f,f<F.length->∃d,mV a b us d (F.getD f zA))(hv:∀f,f<F.length->vfP (F.getD f zA).2.1)
    (hva:vaP (wR (us.map (cU a b),F,[])))(hc:clB (edZ (wR (us.map (cU a b),F,[])))=true):kZ (us.map (cU a b),F,[]):=by
 have ac:∀i,a.at i<b.at i:=λi=>match i with
  |0=>h.1|1=>h.2.1|_+2=>h.2.2
 have Z:(us.map (cU a b)).length=us.length:=List.length_map _;refine zQK (yDM (λe=>?_) λf hf=>?_) (yDJ λi k ab hi e=>?_) (yDQ (λf hf=>?_) λf hf l hl k hk=>?_) (yDV λf hf=>?_) (yEC hva hc)
 · rcases e with(e|e)|e
   · have e':512<(us.map (cU a b)).length:=e
     omega
   · have e':256<F.length:=e
     omega
   · have e':1024<([]:List En).length:=e
     simp at e'
 · obtain⟨d,hd⟩:=hF f hf
   exact⟨hv f hf,zZP hd⟩
 · have U:i<us.length:=by rw[<-Z];exact hi
   have e':gp (us.map (cU a b)) i=gp (us.map (cU a b)) k:=e;rw[zA5 U,zA5 zoq] at e';exact hn i k ab U (yI3 h.1 h.2.1 h.2.2 e')
 · obtain⟨d,C,c,D,O,_⟩:=hF f hf
   show ¬(F.getD f zA).1.1=zT
   rw[O];exact(zKV C D).2.2
 · obtain⟨d,hd⟩:=hF f hf
   obtain⟨H,ht,h4,M⟩:=zBL hf hd;obtain⟨C,c,D,O,_⟩:=hd;rw[M] at hl hk ⊢;have aa:l=0:=by have:l<1:=hl;omega
   subst aa;have J:k<(H.map (cU a b)).length:=hk;rw[List.length_map] at J
   show sdZ (F.getD f zA).1 (gp (H.map (cU a b)) k)=0
   rw[O,zA5 J];refine zUD C ?_;unfold zEG at ht;simp only[Bool.and_eq_true] at ht;have h9:=zob.1 ht.1 (H.getD k u0) (kA J);exact eq_of_beq h9
 · obtain⟨d,hd⟩:=hF f hf
   obtain⟨H,ht,h4,M⟩:=zBL hf hd;obtain⟨C,c,D,O,_⟩:=hd;have e:gC (us.map (cU a b),F,[]) f=[H.map λu=>uW (F.getD f zA).1 (cU a b u)]:=by
    obtain⟨v1,v2,v3,v4,rfl⟩:∃v1 v2 v3 v4,H=[v1,v2,v3,v4]:=by
     match H,h4 with
     |[v1,v2,v3,v4],_=>exact⟨_,_,_,_,rfl⟩
    exact zRI M
   rw[e,O];exact zIJ C D ac ht
end
instance decLp(x:List Int):Decidable (lpP x):=by unfold lpP;exact inferInstance
instance decVf(L:List (List Int)):Decidable (vfP L):=by unfold vfP;exact inferInstance
instance decVa(F:List (List (List Int))):Decidable (vaP F):=by unfold vaP;exact inferInstance
variable {a b:Pt}
theorem zHV{N M:Pt}{o r:Rat}(h1:N=M)(h2:o=r):(N,o)=(M,r):=by rw[h1,h2]
theorem zRM(h:a.x<b.x/\a.y<b.y/\a.z<b.z):mV a b uB0 (1,false) ((fB0 a b).getD 0 zA)/\mV a b uB0 (0,true) ((fB0 a b).getD 1 zA)/\mV a b uB0 (1,true) ((fB0 a b).getD 2 zA)/\mV a b uB0 (0,false) ((fB0 a b).getD 3 zA)/\mV a b uB0 (2,false) ((fB0 a b).getD 4 zA)/\mV a b uB0 (2,true) ((fB0 a b).getD 5 zA):=by
 obtain⟨hx,hy,hz⟩:=h;refine⟨?_,?_,?_,?_,?_,?_⟩
 · refine⟨by decide,b.x-a.x,by grind,zHV ?_ ?_,0,1,5,4,I,by decide,by decide⟩
   · show T3.mk (a.y-a.y) (-(b.x-a.x)) (0:Rat)=T3.mk 0 (-(b.x-a.x)) 0
     rw[qS];refine⟨?_,I,I⟩;show a.y-a.y=0;grind
   · show zE (T3.mk (a.y-a.y) (-(b.x-a.x)) (0:Rat)) (T3.mk a.x a.y a.z)= -(b.x-a.x)*a.y
     unfold zE;simp only;grind
 · refine⟨by decide,b.y-a.y,by grind,zHV ?_ ?_,1,2,6,5,I,by decide,by decide⟩
   · show T3.mk (b.y-a.y) (-(b.x-b.x)) (0:Rat)=T3.mk (b.y-a.y) 0 0
     rw[qS];refine⟨I,?_,I⟩;show -(b.x-b.x)=0;grind
   · show zE (T3.mk (b.y-a.y) (-(b.x-b.x)) (0:Rat)) (T3.mk b.x a.y a.z)=(b.y-a.y)*b.x
     unfold zE;simp only;grind
 · refine⟨by decide,b.x-a.x,by grind,zHV ?_ ?_,2,3,7,6,I,by decide,by decide⟩
   · show T3.mk (b.y-b.y) (-(a.x-b.x)) (0:Rat)=T3.mk 0 (b.x-a.x) 0
     rw[qS];refine⟨?_,?_,I⟩
     · show b.y-b.y=0;grind
     · show -(a.x-b.x)=b.x-a.x;grind
   · show zE (T3.mk (b.y-b.y) (-(a.x-b.x)) (0:Rat)) (T3.mk b.x b.y a.z)=(b.x-a.x)*b.y
     unfold zE;simp only;grind
 · refine⟨by decide,b.y-a.y,by grind,zHV ?_ ?_,3,0,4,7,I,by decide,by decide⟩
   · show T3.mk (a.y-b.y) (-(a.x-a.x)) (0:Rat)=T3.mk (-(b.y-a.y)) 0 0
     rw[qS];refine⟨?_,?_,I⟩
     · show a.y-b.y= -(b.y-a.y);grind
     · show -(a.x-a.x)=0;grind
   · show zE (T3.mk (a.y-b.y) (-(a.x-a.x)) (0:Rat)) (T3.mk a.x b.y a.z)= -(b.y-a.y)*a.x
     unfold zE;simp only;grind
 · refine⟨by decide,1,by decide,zHV I ?_,3,2,1,0,I,by decide,by decide⟩
   show -a.z= -1*a.z
   grind
 · refine⟨by decide,1,by decide,zHV I ?_,4,5,6,7,I,by decide,by decide⟩
   show b.z=1*b.z
   grind
theorem zRN(h:a.x<b.x/\a.y<b.y/\a.z<b.z):∀f,f<(fB0 a b).length->∃d,mV a b uB0 d ((fB0 a b).getD f zA):=by
 intro f hf;have C:f<6:=hf;obtain⟨h0,h1,h2,h3,H,D⟩:=zRM h;have:f=0\/f=1\/f=2\/f=3\/f=4\/f=5:=by omega
 rcases this with rfl|rfl|rfl|rfl|rfl|rfl
 · exact⟨_,h0⟩
 · exact⟨_,h1⟩
 · exact⟨_,h2⟩
 · exact⟨_,h3⟩
 · exact⟨_,H⟩
 · exact⟨_,D⟩
theorem zHP(h:a.x<b.x/\a.y<b.y/\a.z<b.z):kZ (pB0 a b,fB0 a b,[]):=by
 have g:∀i,i<uB0.length->∀k,k<i->¬uB0.getD i u0=uB0.getD k u0:=by decide +kernel
 rw[oF];refine zKU h (λi k hk hi=>g i hi k hk) ⟨by decide,show 6<=256 by decide⟩ (zRN h) (λf hf=>?_) ?_ ?_
 · have C:f<6:=hf
   have:f=0\/f=1\/f=2\/f=3\/f=4\/f=5:=by omega
   rcases this with rfl|rfl|rfl|rfl|rfl|rfl
   · show vfP [[0,1,5,4]];decide +kernel
   · show vfP [[1,2,6,5]];decide +kernel
   · show vfP [[2,3,7,6]];decide +kernel
   · show vfP [[3,0,4,7]];decide +kernel
   · show vfP [[3,2,1,0]];decide +kernel
   · show vfP [[4,5,6,7]];decide +kernel
 · rw[<-oF,iM];decide +kernel
 · rw[<-oF,iM];decide +kernel
variable {a b:Pt}
def ixB(o:List Int)(n:Nat):Nat->List Int
  |0=>List.replicate n (0:Int)
  |i+1=>(ixB o n i).set (o.getD i 0).toNat (i:Int)
theorem zPR{s:Sd}{o:List Int}(h:fI s=o):∀i,zG9 s i=ixB o s.1.length i
  |0=>rfl
  |i+1=>by unfold zG9 ixB;rw[zPR h i,h]
theorem zYD(h:a.x<b.x/\a.y<b.y/\a.z<b.z):ixZ (pB0 a b,fB0 a b,[])=[0,4,6,2,1,5,7,3]:=by
 have C:=zLX h.1 h.2.1 h.2.2;unfold ixZ;rw[zPR C,C]
 show ixB _ 8 8=_
 decide
def uB1:List B3:=[(false,false,false),(false,false,true),(false,true,false),(false,true,true),(true,false,false),(true,false,true),(true,true,false),(true,true,true)]
theorem zXF(h:a.x<b.x/\a.y<b.y/\a.z<b.z):nrP (pB0 a b,fB0 a b,[])=uB1.map (cU a b):=by
 have C:=zLX h.1 h.2.1 h.2.2;unfold nrP;rw[if_pos (zHP h)];unfold zXG;rw[C];rfl
theorem zQV(h:a.x<b.x/\a.y<b.y/\a.z<b.z){us:List B3}{F:List Fc}{f:Nat}(hf:f<F.length){d:Dir}(hd:mV a b us d (F.getD f zA)):zDJ (us.map (cU a b),F,[]) f 0:=by
 have J:∀i,a.at i<b.at i:=λi=>match i with
  |0=>h.1|1=>h.2.1|_+2=>h.2.2
 obtain⟨M,ht,h4,D⟩:=zBL hf hd;obtain⟨C,c,H,U,_⟩:=hd;obtain⟨v1,v2,v3,v4,rfl⟩:∃v1 v2 v3 v4,M=[v1,v2,v3,v4]:=by
  match M,h4 with
  |[v1,v2,v3,v4],_=>exact⟨_,_,_,_,rfl⟩
 have e:gC (us.map (cU a b),F,[]) f=[[v1,v2,v3,v4].map λu=>uW (F.getD f zA).1 (cU a b u)]:=zRI D;have O:=(zIJ (o:=(F.getD f zA).1.2) C H J ht).2;unfold zDJ;rw[e];have e2:(F.getD f zA).1=(dN d c,(F.getD f zA).1.2):=by rw[U]
 rw[e2];refine Classical.byContradiction λZ=>?_;have h0:ouZ [[v1,v2,v3,v4].map λu=>uW (dN d c,(F.getD f zA).1.2) (cU a b u)]=0:=if_neg Z;rw[h0] at O;exact absurd O zot
theorem yGO{d:Dir}{c r:Rat}(hd:d.1<3)(hc:0<c):scZ (dN d c,(if d.2 then c else -c)*r)=(dN d 1,(if d.2 then 1 else -1)*r):=by
 obtain⟨H,J⟩:=d;have h3:H=0\/H=1\/H=2:=by have:H<3:=hd;omega
 have hs:∀{x:Rat},x≠0->¬yV x=0:=λ{x} hx e=>by unfold yV at e;rw[if_neg hx] at e;split at e<;>omega
 have hz:yV 0=0:=if_pos I;have D:c≠0:=by grind
 have C:-c≠0:=by grind
 have U:ivA c*c=1/\ivA (-c)*c=1:=by
  have Z:((1:Int):Rat)=1:=I;have O:¬c.num<0:=Int.not_lt.2 (Rat.num_nonneg.2 (Rat.le_of_lt hc));have M:(-c).num<0:=Int.not_le.1 λe=>by have:=Rat.num_nonneg.1 e;grind
  have a1:iV c=c:=if_neg O;have a2:iV (-c)=c:=by
   have:iV (-c)= - -c:=if_pos M;rw[this];grind
  unfold ivA;rw[a1,a2,if_neg D,Z];grind
 rcases h3 with rfl|rfl|rfl<;>cases J<;>simp[scZ,dN,T3.set,hz,hs D,hs C,scW]<;>grind
variable {a b:Pt}
def plD(a b:Pt)(d:Dir):Pl:=(dN d 1,(if d.2 then 1 else -1)*(if d.2 then b.at d.1 else a.at d.1))
theorem aB(h:a.x<b.x/\a.y<b.y/\a.z<b.z){us:List B3}{F:List Fc}{f:Nat}(hf:f<F.length){d:Dir}(hd:mV a b us d (F.getD f zA))(ix:List Int){x:List Int}(hx:(F.getD f zA).2.1=[x]):
 nfF (us.map (cU a b),F,[]) ix f=(plD a b d,[zS0 (qG (λq=>ix.getD (x.getD q 0).toNat 0) x.length)],(F.getD f zA).2.2):=by
 have J:=zQV h hf hd;obtain⟨D,c,H,C,_⟩:=hd;unfold nfF
 show(scZ (F.getD f zA).1,ouL (us.map (cU a b),F,[]) ix f ((F.getD f zA).2.1).length++j9 (us.map (cU a b),F,[]) ix f ((F.getD f zA).2.1).length,(F.getD f zA).2.2)=_
 rw[C,yGO D H,hx];have U:ouL (us.map (cU a b),F,[]) ix f 1=[nfL (us.map (cU a b),F,[]) ix f 0]:=by
  unfold ouL;rw[<-zAE J];rfl
 have O:j9 (us.map (cU a b),F,[]) ix f 1=[]:=if_pos J
 show(_,ouL _ ix f 1++j9 _ ix f 1,_)=_
 rw[U,O];have M:nfL (us.map (cU a b),F,[]) ix f 0=zS0 (qG (λq=>ix.getD (x.getD q 0).toNat 0) x.length):=by
  unfold nfL nwL
  show zS0 (qG (λq=>ix.getD ((((F.getD f zA).2.1).getD 0 []).getD q 0).toNat 0) (((F.getD f zA).2.1).getD 0 []).length)=_
  rw[hx];rfl
 rw[M];rfl
theorem zXH(h:a.x<b.x/\a.y<b.y/\a.z<b.z)(ix:List Int)(hix:ix=[0,4,6,2,1,5,7,3]):
 nfF (pB0 a b,fB0 a b,[]) ix 0=(plD a b (1,false),[[0,4,5,1]],nmS 0 0)/\nfF (pB0 a b,fB0 a b,[]) ix 1=(plD a b (0,true),[[4,6,7,5]],nmS 0 1)/\nfF (pB0 a b,fB0 a b,[]) ix 2=(plD a b (1,true),[[2,3,7,6]],nmS 0 2)/\
 nfF (pB0 a b,fB0 a b,[]) ix 3=(plD a b (0,false),[[0,1,3,2]],nmS 0 3)/\nfF (pB0 a b,fB0 a b,[]) ix 4=(plD a b (2,false),[[0,2,6,4]],[98,111,116,116,111,109])/\nfF (pB0 a b,fB0 a b,[]) ix 5=(plD a b (2,true),[[1,5,7,3]],[116,111,112]):=by
 subst hix;have g:=zRM h;rw[oF];refine⟨?_,?_,?_,?_,?_,?_⟩
 · rw[aB h (F:=fB0 a b) (f:=0) (show 0<6 by decide) g.1 _ (x:=[0,1,5,4]) I];rfl
 · rw[aB h (F:=fB0 a b) (f:=1) (show 1<6 by decide) g.2.1 _ (x:=[1,2,6,5]) I];rfl
 · rw[aB h (F:=fB0 a b) (f:=2) (show 2<6 by decide) g.2.2.1 _ (x:=[2,3,7,6]) I];rfl
 · rw[aB h (F:=fB0 a b) (f:=3) (show 3<6 by decide) g.2.2.2.1 _ (x:=[3,0,4,7]) I];rfl
 · rw[aB h (F:=fB0 a b) (f:=4) (show 4<6 by decide) g.2.2.2.2.1 _ (x:=[3,2,1,0]) I];rfl
 · rw[aB h (F:=fB0 a b) (f:=5) (show 5<6 by decide) g.2.2.2.2.2 _ (x:=[4,5,6,7]) I];rfl
def lsB:List Nat->List Nat->Bool
  |[],[]=>false
  |[],_::_=>true
  |_::_,[]=>false
  |x::a,y::b=>if x=y then lsB a b else decide (x<y)
theorem zXU:∀a b:List Nat,lsN a b↔lsB a b=true
  |[],[]=>by simp[lsN,lsB]
  |[],_::_=>by simp[lsN,lsB]
  |_::_,[]=>by simp[lsN,lsB]
  |x::a,y::b=>by
   have ih:=zXU a b
   by_cases h:x=y
   · simp[lsN,lsB,h,ih]
   · simp[lsN,lsB,h]
def nsB(nm:Nat->List Nat):Nat->List Nat
  |0=>[]
  |f+1=>iN (nsB nm f) (zDE (λk=>lsB (nm f) (nm ((nsB nm f).getD k 0))) (nsB nm f).length) f
theorem zJT(nm:Nat->List Nat):∀f x,x∈nsB nm f->x<f
  |f+1,x,h=>by
   unfold nsB iN at h
   rcases List.mem_append.1 h with h|h
   · have:=zJT nm f x (List.mem_of_mem_take h);omega
   · rcases List.mem_cons.1 h with rfl|h
     · omega
     · have:=zJT nm f x (List.mem_of_mem_drop h);omega
theorem zYI{α β:Type}(g:α->β)(l:List α)(k:Nat)(x:α):iN (l.map g) k (g x)=(iN l k x).map g:=by
 unfold iN;rw[List.map_append,List.map_cons,List.map_take,List.map_drop]
theorem zJS{s:Sd}{nm:Nat->List Nat}{n:Nat}(hn:∀i,i<n->(nfF s (ixZ s) i).2.2=nm i)(hd:∀i,i<n->∀k,k<i->¬nm i=nm k):∀f,f<=n->j3 s f=(nsB nm f).map λi=>nfF s (ixZ s) i
  |0,_=>rfl
  |f+1,hf=>by
   have ih:=zJS hn hd f zoq;unfold j3 nsB;have hb:aL (zPJ (nfF s (ixZ s) f) (j3 s f)) (j3 s f).length=zDE (λk=>lsB (nm f) (nm ((nsB nm f).getD k 0))) (nsB nm f).length:=by
    rw[ih,List.length_map];refine zBK _ λk hk=>?_;have C:=zJT nm f _ (kA (d:=0) hk);have e:((nsB nm f).map λi=>nfF s (ixZ s) i).getD k zA=nfF s (ixZ s) ((nsB nm f).getD k 0):=by
     rw[zoa,List.getElem?_map,zoc hk,zoa,zoc hk];rfl
    unfold zPJ lsF;rw[e,hn f zoq,hn _ zoq,if_neg (hd f zoq _ C)];exact zXU _ _
   rw[hb,ih,zYI]
variable {a b:Pt}
def nm0(i:Nat):List Nat:=([[115,48,46,48],[115,48,46,49],[115,48,46,50],[115,48,46,51],[98,111,116,116,111,109],[116,111,112]]:List (List Nat)).getD i []
def fB1(a b:Pt):List Fc:=[(plD a b (2,false),[[0,2,6,4]],[98,111,116,116,111,109]),(plD a b (1,false),[[0,4,5,1]],[115,48,46,48]),(plD a b (0,true),[[4,6,7,5]],[115,48,46,49]),(plD a b (1,true),[[2,3,7,6]],[115,48,46,50]),(plD a b (0,false),[[0,1,3,2]],[115,48,46,51]),(plD a b (2,true),[[1,5,7,3]],[116,111,112])]
theorem zXE(h:a.x<b.x/\a.y<b.y/\a.z<b.z):nrF (pB0 a b,fB0 a b,[])=fB1 a b:=by
 have C:=zYD h;obtain⟨h0,h1,h2,h3,H,D⟩:=zXH h _ C;rw[yHD zot] at h0 h1 h2 h3;have J:∀i,i<6->(nfF (pB0 a b,fB0 a b,[]) (ixZ (pB0 a b,fB0 a b,[])) i).2.2=nm0 i:=λi hi=>by
  have:i=0\/i=1\/i=2\/i=3\/i=4\/i=5:=by omega
  rcases this with rfl|rfl|rfl|rfl|rfl|rfl
  · rw[h0];rfl
  · rw[h1];rfl
  · rw[h2];rfl
  · rw[h3];rfl
  · rw[H];rfl
  · rw[D];rfl
 have hd:∀i,i<6->∀k,k<i->¬nm0 i=nm0 k:=by decide
 unfold nrF;rw[if_pos (zHP h)]
 show j3 _ 6=_
 rw[zJS J hd 6 (Nat.le_refl _),show nsB nm0 6=[4,0,1,2,3,5] by decide];simp only[List.map_cons,List.map_nil];rw[h0,h1,h2,h3,H,D]
 rfl
variable {a b:Pt}
def fB2(a b:Pt):List Fc:=[(plD a b (2,false),[[0,2,6,4]],[122,48]),(plD a b (1,false),[[0,4,5,1]],[121,48]),(plD a b (0,true),[[4,6,7,5]],[120,49]),(plD a b (1,true),[[2,3,7,6]],[121,49]),(plD a b (0,false),[[0,1,3,2]],[120,48]),(plD a b (2,true),[[1,5,7,3]],[122,49])]
theorem yBO(h:iU a b):prP (blL a b) a.z b.z=uB1.map (cU a b)/\prF (blL a b) a.z b.z=fB1 a b:=by
 have C:=zR4 h;have D:=zZS h;rw[(yC6 h).1] at D;unfold prP prF;rw[if_pos D,if_pos D,zLP C.1 C.2.1];exact⟨zXF C,zXE C⟩
theorem zR6(h:iU a b):blS a b=(uB1.map (cU a b),fB2 a b,[]):=by
 obtain⟨h1,h2⟩:=yBO h;unfold blS blG;rw[yAG,h1,h2];refine congrArg (λz=>(uB1.map (cU a b),z,([]:List En))) ?_;simp only[fB1,fB2,List.map_cons,List.map_nil,rnF];simp[rnN]
variable {a b:Pt}
theorem zKL:mV a b uB1 (2,false) ((fB2 a b).getD 0 zA)/\mV a b uB1 (1,false) ((fB2 a b).getD 1 zA)/\mV a b uB1 (0,true) ((fB2 a b).getD 2 zA)/\mV a b uB1 (1,true) ((fB2 a b).getD 3 zA)/\mV a b uB1 (0,false) ((fB2 a b).getD 4 zA)/\mV a b uB1 (2,true) ((fB2 a b).getD 5 zA):=
 ⟨⟨by decide,1,by decide,rfl,0,2,6,4,rfl,by decide,by decide⟩,⟨by decide,1,by decide,rfl,0,4,5,1,rfl,by decide,by decide⟩,⟨by decide,1,by decide,rfl,4,6,7,5,rfl,by decide,by decide⟩,⟨by decide,1,by decide,rfl,2,3,7,6,rfl,by decide,by decide⟩,⟨by decide,1,by decide,rfl,0,1,3,2,rfl,by decide,by decide⟩,⟨by decide,1,by decide,rfl,1,5,7,3,rfl,by decide,by decide⟩⟩
theorem j4:wR (uB1.map (cU a b),fB2 a b,[])=[[[0,2,6,4]],[[0,4,5,1]],[[4,6,7,5]],[[2,3,7,6]],[[0,1,3,2]],[[1,5,7,3]]]:=rfl
theorem zVK(h:a.x<b.x/\a.y<b.y/\a.z<b.z):kZ (uB1.map (cU a b),fB2 a b,[]):=by
 have g:∀i,i<uB1.length->∀k,k<i->¬uB1.getD i u0=uB1.getD k u0:=by decide +kernel
 obtain⟨h0,h1,h2,h3,H,D⟩:=zKL (a:=a) (b:=b);refine zKU h (λi k hk hi=>g i hi k hk) ⟨by decide,show 6<=256 by decide⟩ (λf hf=>?_) (λf hf=>?_) ?_ ?_
 · have C:f<6:=hf
   have:f=0\/f=1\/f=2\/f=3\/f=4\/f=5:=by omega
   rcases this with rfl|rfl|rfl|rfl|rfl|rfl
   · exact⟨_,h0⟩
   · exact⟨_,h1⟩
   · exact⟨_,h2⟩
   · exact⟨_,h3⟩
   · exact⟨_,H⟩
   · exact⟨_,D⟩
 · have C:f<6:=hf
   have:f=0\/f=1\/f=2\/f=3\/f=4\/f=5:=by omega
   rcases this with rfl|rfl|rfl|rfl|rfl|rfl
   · show vfP [[0,2,6,4]];decide +kernel
   · show vfP [[0,4,5,1]];decide +kernel
   · show vfP [[4,6,7,5]];decide +kernel
   · show vfP [[2,3,7,6]];decide +kernel
   · show vfP [[0,1,3,2]];decide +kernel
   · show vfP [[1,5,7,3]];decide +kernel
 · rw[j4];decide +kernel
 · rw[j4];decide +kernel
variable {a b:Pt}
theorem zQY(h:a.x<b.x/\a.y<b.y/\a.z<b.z):fI (uB1.map (cU a b),fB2 a b,[])=[0,1,2,3,4,5,6,7]:=by
 rw[zHY h.1 h.2.1 h.2.2,j4]
 decide +kernel
theorem yCE(h:a.x<b.x/\a.y<b.y/\a.z<b.z):ixZ (uB1.map (cU a b),fB2 a b,[])=[0,1,2,3,4,5,6,7]:=by
 have C:=zQY h;unfold ixZ;rw[zPR C,C]
 show ixB _ 8 8=_
 decide
def fB3(a b:Pt):List Fc:=[(plD a b (0,false),[[0,1,3,2]],[120,48]),(plD a b (0,true),[[4,6,7,5]],[120,49]),(plD a b (1,false),[[0,4,5,1]],[121,48]),(plD a b (1,true),[[2,3,7,6]],[121,49]),(plD a b (2,false),[[0,2,6,4]],[122,48]),(plD a b (2,true),[[1,5,7,3]],[122,49])]
def nm1(i:Nat):List Nat:=([[122,48],[121,48],[120,49],[121,49],[120,48],[122,49]]:List (List Nat)).getD i []
theorem yBY(h:a.x<b.x/\a.y<b.y/\a.z<b.z)(ix:List Int)(hix:ix=[0,1,2,3,4,5,6,7]):∀i,i<6->nfF (uB1.map (cU a b),fB2 a b,[]) ix i=(fB2 a b).getD i zA:=by
 subst hix;obtain⟨h0,h1,h2,h3,D,C⟩:=zKL (a:=a) (b:=b);intro i hi;have:i=0\/i=1\/i=2\/i=3\/i=4\/i=5:=by omega
 rcases this with rfl|rfl|rfl|rfl|rfl|rfl
 · rw[aB h (F:=fB2 a b) (f:=0) (show 0<6 by decide) h0 _ (x:=[0,2,6,4]) I];rfl
 · rw[aB h (F:=fB2 a b) (f:=1) (show 1<6 by decide) h1 _ (x:=[0,4,5,1]) I];rfl
 · rw[aB h (F:=fB2 a b) (f:=2) (show 2<6 by decide) h2 _ (x:=[4,6,7,5]) I];rfl
 · rw[aB h (F:=fB2 a b) (f:=3) (show 3<6 by decide) h3 _ (x:=[2,3,7,6]) I];rfl
 · rw[aB h (F:=fB2 a b) (f:=4) (show 4<6 by decide) D _ (x:=[0,1,3,2]) I];rfl
 · rw[aB h (F:=fB2 a b) (f:=5) (show 5<6 by decide) C _ (x:=[1,5,7,3]) I];rfl
theorem zP5(h:iU a b):blP a b=uB1.map (cU a b)/\blF a b=fB3 a b:=by
 have C:=zR4 h;obtain⟨_,O,M⟩:=yC6 h;rw[O,M,zR6 h];have hs:=zVK C;have H:=zQY C;have D:=yCE C;refine⟨?_,?_⟩
 · unfold nrP
   rw[if_pos hs];unfold zXG;rw[H];rfl
 · have hf:=yBY C _ D
   have J:∀i,i<6->(nfF (uB1.map (cU a b),fB2 a b,[]) (ixZ (uB1.map (cU a b),fB2 a b,[])) i).2.2=nm1 i:=λi hi=>by
    rw[hf i hi];have:i=0\/i=1\/i=2\/i=3\/i=4\/i=5:=by omega
    rcases this with rfl|rfl|rfl|rfl|rfl|rfl<;>rfl
   unfold nrF;rw[if_pos hs]
   show j3 _ 6=_
   rw[zJS J zot 6 (Nat.le_refl _),show nsB nm1 6=[4,2,1,3,0,5] by decide];simp only[List.map_cons,List.map_nil];rw[hf 0 zot,hf 1 zot,hf 2 zot,hf 3 zot,hf 4 zot,hf 5 zot]
   rfl
variable {a b:Pt}
theorem zLQ{P:List Pt}(h:0<yV (arZ P 0 1)):aD P:=zCM λe=>by
 have:arZ P 0 1=0:=e;rw[this] at h;exact absurd h zot
theorem zP4(h:a.x<b.x/\a.y<b.y/\a.z<b.z){us:List B3}{F:List Fc}(hu:us.length<=512/\F.length<=256)(hF:∀f,f<F.length->∃d,mV a b us d (F.getD f zA)):okS (us.map (cU a b),F,[]):=by
 refine⟨⟨⟨?_,?_⟩,Nat.zero_le _⟩,λf hf=>?_,λf hf x hx=>?_⟩
 · show(us.map (cU a b)).length<=1000
   rw[List.length_map];omega
 · show F.length<=1000
   omega
 · obtain⟨d,_,c,_,_,i,j,k,l,O,_⟩:=hF f hf
   show(F.getD f zA).2.1.length<=16/\∀l,l<(F.getD f zA).2.1.length->((F.getD f zA).2.1.getD l []).length<=64
   rw[O];refine⟨show 1<=16 by decide,λm M=>?_⟩;have D:m=0:=by have:m<1:=M;omega
   subst D
   show 4<=64
   decide
 · obtain⟨d,hd⟩:=hF f hf
   have C:=zQV h hf hd;obtain⟨J,ht,U,H⟩:=zBL hf hd;obtain⟨v1,v2,v3,v4,rfl⟩:∃v1 v2 v3 v4,J=[v1,v2,v3,v4]:=by
    match J,U with
    |[v1,v2,v3,v4],_=>exact⟨_,_,_,_,rfl⟩
   have e:gC (us.map (cU a b),F,[]) f=[[v1,v2,v3,v4].map λu=>uW (F.getD f zA).1 (cU a b u)]:=zRI H;unfold zDJ at C;rw[e] at C hx;rw[List.mem_singleton.1 hx];exact zLQ C
theorem yJB(h:iU a b):blH a b:=by
 have C:=zR4 h;refine⟨λx hx=>?_,λ_=>?_,?_⟩
 · have:x=bB a b:=List.mem_singleton.1 hx
   rw[this];exact zLQ (zZV C.1 C.2.1)
 · rw[zLP C.1 C.2.1,oF]
   exact zP4 C ⟨by decide,show 6<=256 by decide⟩ (zRN C)
 · rw[zR6 h]
   obtain⟨h0,h1,h2,h3,J,H⟩:=zKL (a:=a) (b:=b);refine zP4 C ⟨by decide,show 6<=256 by decide⟩ λf hf=>?_;have D:f<6:=hf;have:f=0\/f=1\/f=2\/f=3\/f=4\/f=5:=by omega
   rcases this with rfl|rfl|rfl|rfl|rfl|rfl
   · exact⟨_,h0⟩
   · exact⟨_,h1⟩
   · exact⟨_,h2⟩
   · exact⟨_,h3⟩
   · exact⟨_,J⟩
   · exact⟨_,H⟩
def yKY(r:Rat)(n:Int):Prop:=¬((yV r<0\/n<0)\/64<n)
noncomputable def mrLo(r:Rat)(n:Int):Rat:=if yKY r n then zHS r n else 0
noncomputable def mrHi(r:Rat)(n:Int):Rat:=if yKY r n then yKM r n else 0
theorem zP1{a b:Rat}:0<=xS a b↔b<=a:=by unfold xS;grind
abbrev Tri:=T3 Pt
def pnA(s:Sd)(i:Int):Pt:=s.1.getD i.toNat zT
def inR(s:Sd)(i:Int):Prop:=0<=i/\i<s.1.length
def cnT(s:Sd)(l:List Int):Tri:=T3.mk (pnA s (l.getD 0 0)) (pnA s (l.getD 1 0)) (pnA s (l.getD 2 0))
def cnTo(s:Sd)(l:List Int):Nat->Tri
  |0=>T3.mk zT zT zT
  |i+1=>(cnTo s l i).set i (pnA s (l.getD i 0))
def fanT(s:Sd)(l:List Int)(q:Nat):Tri:=T3.mk (pnA s (l.getD 0 0)) (pnA s (l.getD (q+1) 0)) (pnA s (l.getD (q+2) 0))
def fanL(s:Sd)(l:List Int):Nat->List Tri:=qG (fanT s l)
def yLE(s:Sd)(ls:List (List Int)):Nat->List Tri:=tN λi=>fanL s (ls.getD i []) ((ls.getD i []).length-2)
def yJN(s:Sd)(F:List Fc):Nat->List Tri:=tN λf=>yLE s (F.getD f zA).2.1 (F.getD f zA).2.1.length
def smT(t:Tri):Pt:=xZ (xZ t.x t.y) t.z
def scT(q:Rat)(p:Pt):Pt:=T3.mk (q*p.x) (q*p.y) (q*p.z)
def sumD(l:List Tri):Rat:=l.foldl (λa t=>a+yB t.x t.y t.z) 0
def sumC(l:List Tri):Pt:=l.foldl (λa t=>xZ a (scT (yB t.x t.y t.z) (smT t))) zT
def sumV(l:List Tri):Pt:=l.foldl (λa t=>xZ a (zY (yO t.y t.x) (yO t.z t.x))) zT
def yAC(s:Sd):Rat:=sumD (yJN s s.2.1 s.2.1.length)
def cenS(s:Sd):Pt:=sumC (yJN s s.2.1 s.2.1.length)
def arV(s:Sd)(f:Fc):Pt:=scT (1/2) (sumV (yLE s f.2.1 f.2.1.length))
def lqP(k:Nat)(p:Pt):Prop:=lq p.x<=k/\lq p.y<=k/\lq p.z<=k
def lqT(k:Nat)(t:Tri):Prop:=lqP k t.x/\lqP k t.y/\lqP k t.z
theorem yKO{h:Mem}{cs:List Go.Value}{a b:Pt}{k l:Nat}(r:(rpT (rpQ k)).R h cs a)(e:a=b)(hl:lqP l b):(rpT (rpQ l)).R h cs b:=by
 subst e;obtain⟨x,_,rfl,⟨H,_⟩,y,z,rfl,⟨D,_⟩,⟨C,_⟩⟩:=r;exact⟨x,_,I,⟨H,hl.1⟩,y,z,I,⟨D,hl.2.1⟩,⟨C,hl.2.2⟩⟩
def fcOk(s:Sd)(f:Fc):Prop:=(∀u v,u<f.2.1.length->v<(f.2.1.getD u []).length->inR s ((f.2.1.getD u []).getD v 0))/\(∀u,u<f.2.1.length->(f.2.1.getD u []).length<=1000)/\f.2.1.length<=1000
def fsOk(s:Sd)(F:List Fc):Prop:=(∀i,i<F.length->fcOk s (F.getD i zA))/\F.length<=1000/\(yJN s F F.length).length<=1000
noncomputable def cnS(s:Sd):Pt:=if((4:Int):Rat)*yAC s=0 then zT else scT (((1:Int):Rat)/(((4:Int):Rat)*yAC s)) (cenS s)
def cnO(s:Sd):Prop:=¬((4:Int):Rat)*yAC s=0
noncomputable def arS(s:Sd)(d:Int):Nat->Rat×Rat
  |0=>(0,0)
  |i+1=>((arS s d i).1+mrLo (zE (arV s (s.2.1.getD i zA)) (arV s (s.2.1.getD i zA))) d,(arS s d i).2+mrHi (zE (arV s (s.2.1.getD i zA)) (arV s (s.2.1.getD i zA))) d)
def arOk(s:Sd):Prop:=∀i,i<s.2.1.length->lq (zE (arV s (s.2.1.getD i zA)) (arV s (s.2.1.getD i zA)))<=200
def pI(a b c:Int):Pt:=T3.mk (a:Rat) (b:Rat) (c:Rat)
noncomputable def bkS(a b:Pt):Sd:=(blP a b,blF a b,[])
def lgS(s:Sd):Prop:=∀f,f<s.2.1.length->(s.2.1.getD f zA).2.1.length<=10000/\∀l,l<(s.2.1.getD f zA).2.1.length->((s.2.1.getD f zA).2.1.getD l []).length<=10000
def msOk(s:Sd):Prop:=(nmA s/\lgS s)/\fsOk s s.2.1/\arOk s
structure SaneF:Prop where
 h:iU (pI 0 0 0) (pI 2 2 2)->blH (pI 0 0 0) (pI 2 2 2)
 ok:msOk (bkS (pI 0 0 0) (pI 2 2 2))
 vol:yAC (bkS (pI 0 0 0) (pI 2 2 2))/((6:Int):Rat)=((8:Int):Rat)
 cen:cnS (bkS (pI 0 0 0) (pI 2 2 2))=pI 1 1 1/\cnO (bkS (pI 0 0 0) (pI 2 2 2))
 area:arS (bkS (pI 0 0 0) (pI 2 2 2)) 0 (bkS (pI 0 0 0) (pI 2 2 2)).2.1.length=(((24:Int):Rat),((24:Int):Rat))
variable {a b:Pt}
def bxS(a b:Pt):Sd:=(uB1.map (cU a b),fB3 a b,[])
theorem yC7(h:iU a b):bkS a b=bxS a b:=by
 obtain⟨h1,h2⟩:=zP5 h;unfold bkS bxS;rw[h1,h2]
def cC(a b:Pt)(i:Nat):Pt:=cU a b (uB1.getD i u0)
noncomputable def whF(s:Sd)(f:Nat)(q:Pt):Int:=whZ (gC s f) (pr (uW (s.2.1.getD f zA).1 q) 0 1) 0 1
def cnF(s:Sd)(d:Pt)(f:Nat):Rat:=zE (s.2.1.getD f zA).1.1 d
def hnF(s:Sd)(p:Pt)(f:Nat):Rat:=(s.2.1.getD f zA).1.2-zE (s.2.1.getD f zA).1.1 p
def pO(p d:Pt)(t:Rat):Pt:=xZ p (scT t d)
def skP(s:Sd)(p d:Pt)(f:Nat):Prop:=yV (cnF s d f)*yV (hnF s p f)<=0
noncomputable def crE(s:Sd)(p d:Pt)(f:Nat):Int:=if skP s p d f then 0 else if whF s f (pO p d (hnF s p f/cnF s d f))=1 then(if 0<cnF s d f then 1 else -1) else 0
noncomputable def crS(s:Sd)(p d:Pt):Nat->Int
  |0=>0
  |n+1=>crS s p d n+crE s p d n
theorem aX{c h:Rat}:yV c*yV h<=0↔¬((0<c/\0<h)\/(c<0/\h<0)):=by
 have r1:=xG c;have r2:=xG h;have M:=aF (q:=c);have J:=qZ (q:=c);have H:=aF (q:=h);have D:=qZ (q:=h);have C:yV c= -1\/yV c=0\/yV c=1:=by omega
 have c2:yV h= -1\/yV h=0\/yV h=1:=by omega
 rw[<-M,<-J,<-H,<-D]
 rcases C with e1|e1|e1<;>rcases c2 with e2|e2|e2<;>rw[e1,e2]<;>simp
theorem zT7(l:List Pt)(p:P2)(i j:Nat):gA l p i j=0\/gA l p i j=1\/gA l p i j= -1:=by
 unfold gA
 split
 · exact .inl I
 · split
   · exact .inr (.inl I)
   · exact .inr (.inr I)
theorem zUW(l:List Pt)(p:P2)(i j:Nat):whZ [l] p i j=gA l p i j:=by
 have e:∀m,m<[l].length->[l].getD m []=l:=λm C=>by
  have:m=0:=by have:m<1:=C;omega
  subst this;rfl
 unfold whZ
 rcases zT7 l p i j with h|h|h
 · rw[if_pos ⟨0,Nat.zero_lt_succ _,h⟩,h]
 · rw[if_neg (λ⟨m,C,hz⟩=>by rw[e m C,h] at hz;exact absurd hz zot)]
   show(if gA l p i j=1 then _ else _)=_
   rw[if_pos h,h];rfl
 · rw[if_neg (λ⟨m,C,hz⟩=>by rw[e m C,h] at hz;exact absurd hz zot)]
   show(if gA l p i j=1 then _ else _)=_
   rw[if_neg (by rw[h];decide),h];rfl
section
variable {a b:Pt}
def sI(a b q:Pt)(v:Nat):Prop:=a.at v<q.at v/\q.at v<b.at v
def kI(a b q:Pt)(v:Nat):Prop:=a.at v<=q.at v/\q.at v<=b.at v
theorem yGS{d:Dir}{c o:Rat}(hd:d.1<3)(hc:0<c){vs:List B3}(h4:vs.length=4)(ht:zEG d vs=true):
 yGT (vs.map λu=>uW (dN d c,o) (cU a b u)) 0 1 (a.at (dI d)) (a.at (dJ d)) (b.at (dI d)) (b.at (dJ d)):=by
 have e0:∀x y:Rat,x+(y-x)*((0:Int):Rat)=x:=λx y=>by have:((0:Int):Rat)=0:=rfl;rw[this];grind
 have D:∀x y:Rat,x+(y-x)*((1:Int):Rat)=y:=λx y=>by have:((1:Int):Rat)=1:=rfl;rw[this];grind
 obtain⟨M,v1,v2,v3,rfl⟩:∃M v1 v2 v3,vs=[M,v1,v2,v3]:=by
  match vs,h4 with
  |[_,_,_,_],_=>exact⟨_,_,_,_,rfl⟩
 unfold zEG at ht;simp only[Bool.and_eq_true,Bool.or_eq_true,decide_eq_true_iff,List.map_cons,List.map_nil,List.cons.injEq,and_true] at ht;have C:∀u:B3,pr (uW (dN d c,o) (cU a b u)) 0 1=(a.at (dI d)+(b.at (dI d)-a.at (dI d))*(((pI2 d u).1:Int):Rat),a.at (dJ d)+(b.at (dJ d)-a.at (dJ d))*(((pI2 d u).2:Int):Rat)):=λu=>by
  rw[zRK hd hc];rfl
 have H:∀m:Nat,m<4->m=0\/m=1\/m=2\/m=3:=λm h=>by omega
 refine⟨I,?_⟩
 rcases ht.2 with((⟨q0,q1,q2,q3⟩|⟨q0,q1,q2,q3⟩)|⟨q0,q1,q2,q3⟩)|⟨q0,q1,q2,q3⟩
 · refine⟨0,by decide,λm J=>?_⟩
   rcases H m J with rfl|rfl|rfl|rfl
   · refine(C M).trans ?_;rw[q0];simp only[e0,D];rfl
   · refine(C v1).trans ?_;rw[q1];simp only[e0,D];rfl
   · refine(C v2).trans ?_;rw[q2];simp only[e0,D];rfl
   · refine(C v3).trans ?_;rw[q3];simp only[e0,D];rfl
 · refine⟨1,by decide,λm J=>?_⟩
   rcases H m J with rfl|rfl|rfl|rfl
   · refine(C M).trans ?_;rw[q0];simp only[e0,D];rfl
   · refine(C v1).trans ?_;rw[q1];simp only[e0,D];rfl
   · refine(C v2).trans ?_;rw[q2];simp only[e0,D];rfl
   · refine(C v3).trans ?_;rw[q3];simp only[e0,D];rfl
 · refine⟨2,by decide,λm J=>?_⟩
   rcases H m J with rfl|rfl|rfl|rfl
   · refine(C M).trans ?_;rw[q0];simp only[e0,D];rfl
   · refine(C v1).trans ?_;rw[q1];simp only[e0,D];rfl
   · refine(C v2).trans ?_;rw[q2];simp only[e0,D];rfl
   · refine(C v3).trans ?_;rw[q3];simp only[e0,D];rfl
 · refine⟨3,by decide,λm J=>?_⟩
   rcases H m J with rfl|rfl|rfl|rfl
   · refine(C M).trans ?_;rw[q0];simp only[e0,D];rfl
   · refine(C v1).trans ?_;rw[q1];simp only[e0,D];rfl
   · refine(C v2).trans ?_;rw[q2];simp only[e0,D];rfl
   · refine(C v3).trans ?_;rw[q3];simp only[e0,D];rfl
def kV(f:Nat):Dir:=(f/2,f%2==1)
theorem dS{f:Nat}(hf:f<6):mV a b uB1 (kV f) ((fB3 a b).getD f zA)/\((fB3 a b).getD f zA).1=plD a b (kV f):=by
 have:f=0\/f=1\/f=2\/f=3\/f=4\/f=5:=by omega
 have h1:(0:Rat)<1:=by decide
 rcases this with rfl|rfl|rfl|rfl|rfl|rfl
 · exact⟨⟨by decide,1,h1,I,0,1,3,2,I,⟨by decide,by decide,by decide,by decide⟩,by decide⟩,I⟩
 · exact⟨⟨by decide,1,h1,I,4,6,7,5,I,⟨by decide,by decide,by decide,by decide⟩,by decide⟩,I⟩
 · exact⟨⟨by decide,1,h1,I,0,4,5,1,I,⟨by decide,by decide,by decide,by decide⟩,by decide⟩,I⟩
 · exact⟨⟨by decide,1,h1,I,2,3,7,6,I,⟨by decide,by decide,by decide,by decide⟩,by decide⟩,I⟩
 · exact⟨⟨by decide,1,h1,I,0,2,6,4,I,⟨by decide,by decide,by decide,by decide⟩,by decide⟩,I⟩
 · exact⟨⟨by decide,1,h1,I,1,5,7,3,I,⟨by decide,by decide,by decide,by decide⟩,by decide⟩,I⟩
theorem yCQ{f:Nat}(hf:f<6):(kV f).1<3:=by show f/2<3;omega
theorem yDG(h:∀i,a.at i<b.at i){f:Nat}(hf:f<6)(q:Pt):
 whF (bxS a b) f q=if(kI a b q (dI (kV f))/\kI a b q (dJ (kV f)))/\¬(sI a b q (dI (kV f))/\sI a b q (dJ (kV f))) then 0 else if sI a b q (dI (kV f))/\sI a b q (dJ (kV f)) then 1 else -1:=by
 obtain⟨hb,M⟩:=dS (a:=a) (b:=b) hf;obtain⟨vs,ht,h4,aa⟩:=zBL (F:=fB3 a b) hf hb;obtain⟨v1,v2,v3,v4,rfl⟩:∃v1 v2 v3 v4,vs=[v1,v2,v3,v4]:=by
  match vs,h4 with
  |[_,_,_,_],_=>exact⟨_,_,_,_,rfl⟩
 have e:gC (bxS a b) f=[[v1,v2,v3,v4].map λu=>uW (plD a b (kV f)) (cU a b u)]:=by
  have:=zRI (s:=bxS a b) (f:=f) aa;rw[this]
  show[[uW ((fB3 a b).getD f zA).1 _,uW ((fB3 a b).getD f zA).1 _,uW ((fB3 a b).getD f zA).1 _,uW ((fB3 a b).getD f zA).1 _]]=_
  rw[M];rfl
 have hd:=yCQ hf;have h1:(0:Rat)<1:=by decide
 have O:=zKV (d:=kV f) hd h1;have hq:pr (uW ((bxS a b).2.1.getD f zA).1 q) 0 1=(q.at (dI (kV f)),q.at (dJ (kV f))):=by
  show pr (uW ((fB3 a b).getD f zA).1 q) 0 1=_
  rw[M];unfold uW plD;rw[O.1,O.2.1];rfl
 have U:yGT ([v1,v2,v3,v4].map λu=>uW (plD a b (kV f)) (cU a b u)) 0 1 (a.at (dI (kV f))) (a.at (dJ (kV f))) (b.at (dI (kV f))) (b.at (dJ (kV f))):=yGS hd h1 h4 ht;unfold whF;rw[e,hq,zUW,zYF (h _) (h _) U];have g1:bdP (a.at (dI (kV f))) (a.at (dJ (kV f))) (b.at (dI (kV f))) (b.at (dJ (kV f))) (q.at (dI (kV f)),q.at (dJ (kV f)))↔(kI a b q (dI (kV f))/\kI a b q (dJ (kV f)))/\¬(sI a b q (dI (kV f))/\sI a b q (dJ (kV f))):=by
  unfold bdP kI sI;constructor
  · rintro⟨⟨J,H,D,C⟩,Z⟩
    exact⟨⟨⟨J,H⟩,D,C⟩,λe=>Z ⟨e.1.1,e.1.2,e.2.1,e.2.2⟩⟩
  · rintro⟨⟨⟨J,H⟩,D,C⟩,Z⟩
    exact⟨⟨J,H,D,C⟩,λe=>Z ⟨⟨e.1,e.2.1⟩,e.2.2.1,e.2.2.2⟩⟩
 have g2:zPV (a.at (dI (kV f))) (a.at (dJ (kV f))) (b.at (dI (kV f))) (b.at (dJ (kV f))) (q.at (dI (kV f)),q.at (dJ (kV f)))↔sI a b q (dI (kV f))/\sI a b q (dJ (kV f)):=by
  unfold zPV sI;constructor
  · rintro⟨J,H,D,C⟩
    exact⟨⟨J,H⟩,D,C⟩
  · rintro⟨⟨J,H⟩,D,C⟩
    exact⟨J,H,D,C⟩
 by_cases k1:(kI a b q (dI (kV f))/\kI a b q (dJ (kV f)))/\¬(sI a b q (dI (kV f))/\sI a b q (dJ (kV f)))
 · rw[if_pos (g1.2 k1),if_pos k1]
 · rw[if_neg λe=>k1 (g1.1 e),if_neg k1]
   by_cases k2:sI a b q (dI (kV f))/\sI a b q (dJ (kV f))
   · rw[if_pos (g2.2 k2),if_pos k2]
   · rw[if_neg λe=>k2 (g2.1 e),if_neg k2]
end
def lI(p A B v:Pt):Prop:=if zY (yO A p) (yO B p)=zT then zY (yO B A) v=zT else yB (yO A p) (yO B p) v=0
def vK(k:Int):Pt:=T3.mk ((1:Int):Rat) (k:Rat) ((k*k:Int):Rat)
theorem zIN(a b:Pt):zY a b=zT↔zY b a=zT:=by
 unfold zY;rw[qS,qS];constructor<;>rintro⟨h1,h2,h3⟩<;>simp only at h1 h2 h3 ⊢<;>exact⟨by grind,by grind,by grind⟩
theorem zMZ{p A B v:Pt}(h:lI p A B v):lI p B A v:=by
 unfold lI at *
 by_cases hc:zY (yO A p) (yO B p)=zT
 · rw[if_pos hc] at h
   rw[if_pos ((zIN _ _).1 hc)];unfold zY yO at *;rw[qS] at *;obtain⟨h1,h2,h3⟩:=h;simp only at h1 h2 h3 ⊢;exact⟨by grind,by grind,by grind⟩
 · rw[if_neg hc] at h
   rw[if_neg λe=>hc ((zIN _ _).2 e)];unfold yB zE zY yO at *;simp only at h ⊢;grind
theorem zOD{j k:Nat}(h:j≠k):((j:Int):Rat)≠((k:Int):Rat):=λe=>h (by have:=Rat.intCast_inj.1 e;omega)
theorem yD2{p A B:Pt}(hAB:A≠B){i j k:Nat}(h1:i≠j)(h2:i≠k)(h3:j≠k)(hi:lI p A B (vK i))(hj:lI p A B (vK j))(hk:lI p A B (vK k)):False:=by
 have D:=zOD h1;have e2:=zOD h2;have e3:=zOD h3;have J:((1:Int):Rat)=1:=I;have H:∀n:Nat,((((n:Int)*(n:Int):Int)):Rat)=((n:Int):Rat)*((n:Int):Rat):=λn=>Rat.intCast_mul _ _;unfold lI at *
 by_cases hc:zY (yO A p) (yO B p)=zT
 · rw[if_pos hc] at hi hj
   refine hAB ?_;unfold vK at hi hj;rw[H,J] at hi hj;generalize ((i:Int):Rat)=x at *;generalize ((j:Int):Rat)=y at *;unfold zY yO at hi hj;rw[qS] at hi hj ⊢;obtain⟨a1,O,M⟩:=hi;obtain⟨b1,b2,b3⟩:=hj;simp only at a1 O M b1 b2 b3;have g:(B.x-A.x)*(x-y)=0:=by grind
   have C:B.x-A.x=0:=by
    rcases zoe.1 g with g|g
    · exact g
    · exact absurd zow D
   rw[C] at O M;exact⟨by grind,by grind,by grind⟩
 · rw[if_neg hc] at hi hj hk
   refine hc ?_;unfold vK at hi hj hk;rw[H,J] at hi hj hk;generalize ((i:Int):Rat)=x at *;generalize ((j:Int):Rat)=y at *;generalize ((k:Int):Rat)=z at *;have e:∀t:Rat,yB (yO A p) (yO B p) (T3.mk 1 t (t*t))=(zY (yO A p) (yO B p)).x+(zY (yO A p) (yO B p)).y*t+(zY (yO A p) (yO B p)).z*(t*t):=λt=>by
    unfold yB zE zY;simp only;grind
   rw[e] at hi hj hk;generalize zY (yO A p) (yO B p)=n at *;have C:(x-y)*(n.y+n.z*(x+y))=0:=by grind
   have Z:(x-z)*(n.y+n.z*(x+z))=0:=by grind
   have m1:n.y+n.z*(x+y)=0:=by
    rcases zoe.1 C with g|g
    · exact absurd zow D
    · exact g
   have m2:n.y+n.z*(x+z)=0:=by
    rcases zoe.1 Z with g|g
    · exact absurd zow e2
    · exact g
   have g3:n.z*(y-z)=0:=by grind
   have U:n.z=0:=by
    rcases zoe.1 g3 with g|g
    · exact g
    · exact absurd zow e3
   rw[qS];exact⟨by grind,by grind,U⟩
theorem zDD{α:Type}(q:α->Bool):∀l:List α,(l.filter q).length+(l.filter λx=>!q x).length=l.length
  |[]=>rfl
  |x::l=>by
   have ih:=zDD q l;rw[List.filter_cons,List.filter_cons]
   cases h:q x<;>simp<;>omega
theorem yE8{q:Nat->Prop}{l:List Nat}(hn:l.Nodup)(hq:∀x,x∈l->q x)(h:∀i j k,i≠j->i≠k->j≠k->q i->q j->q k->False):l.length<=2:=by
 match l,hn with
 |[],_=>simp
 |[_],_=>simp
 |[_,_],_=>simp
 |a::b::c::r,hn=>
  simp only[List.nodup_cons,List.mem_cons,not_or] at hn;exact(h a b c hn.1.1 hn.1.2.1 hn.2.1.1 (hq a zoy) (hq b zoy) (hq c zoy)).elim
theorem zOI{α:Type}(bad:α->Nat->Prop):∀(E:List α) (K:List Nat),K.Nodup->2*E.length<K.length->(∀e,e∈E->∀i j k,i≠j->i≠k->j≠k->bad e i->bad e j->bad e k->False)->∃k,k∈K/\∀e,e∈E->¬bad e k
  |[],K,_,hl,_=>by
   match K,hl with
   |k::K,_=>exact⟨k,by simp,λe he=>by cases he⟩
  |e::E,K,hn,hl,h3=>by
   have hb:=zDD (λk=>decide (bad e k)) K;have h2:(K.filter λk=>decide (bad e k)).length<=2:=yE8 (q:=bad e) (hn.filter _) (λx hx=>by simpa using(List.mem_filter.1 hx).2) (h3 e (.head _));rw[lC] at hl;obtain⟨k,hk,hg⟩:=zOI bad E (K.filter λk=>!decide (bad e k)) (hn.filter _) zoq λx hx=>h3 x (.tail _ hx);have hm:=List.mem_filter.1 hk;refine⟨k,hm.1,λx hx=>?_⟩
   rcases List.mem_cons.1 hx with rfl|hx
   · simpa using hm.2
   · exact hg x hx
theorem zX1{q:Nat->Prop}:∀n,q n->∃k,k<=n/\q k/\∀j,j<k->¬q j:=by
 intro n
 induction n using Nat.strongRecOn with
 |_ n ih=>
  intro hn
  by_cases h:∃j,j<n/\q j
  · obtain⟨j,hj,hq⟩:=h
    obtain⟨k,h1,h2,h3⟩:=ih j hj hq;exact⟨k,by omega,h2,h3⟩
  · exact⟨n,Nat.le_refl n,hn,λj hj hq=>h ⟨j,hj,hq⟩⟩
theorem zF4{q:Nat->Prop}(h:∃n,q n):∃k,q k/\∀j,j<k->¬q j:=by
 obtain⟨n,C⟩:=h;obtain⟨k,_,h2⟩:=zX1 n C;exact⟨k,h2⟩
noncomputable def oT(q:Nat->Prop):Nat:=if h:∃n,q n then Classical.choose (zF4 h) else 0
theorem j6{q:Nat->Prop}{n:Nat}(h:q n):oT q<=n/\q (oT q)/\∀j,j<oT q->¬q j:=by
 have D:∃n,q n:=⟨n,h⟩;have hs:=Classical.choose_spec (zF4 D);have e:oT q=Classical.choose (zF4 D):=dif_pos D;rw[e];exact⟨Nat.not_lt.1 λC=>hs.2 n C h,hs.1,hs.2⟩
theorem zRJ{pl:Pl}{l:List Pt}{m:Nat}(h:m<l.length):gp (flA pl l l.length) m=uW pl (gp l m):=qY (λi=>uW pl (gp l i)) (T3.mk (0:Rat) 0 0) h
theorem zY1(pl:Pl)(l:List Pt)(p:Pt):gA (flA pl l l.length) (pr (uW pl p) 0 1) 0 1=gA l (pr p (axI pl.1) (axJ pl.1)) (axI pl.1) (axJ pl.1):=by
 have hl:(flA pl l l.length).length=l.length:=xK _ _;have eA:∀m,m<l.length->wV (flA pl l l.length) 0 1 m=wV l (axI pl.1) (axJ pl.1) m:=λm h=>by
  unfold wV;rw[zRJ h];rfl
 have eB:∀m,m<l.length->wU (flA pl l l.length) 0 1 m=wU l (axI pl.1) (axJ pl.1) m:=λm h=>by
  unfold wU;rw[hl,zRJ (Nat.mod_lt _ zoq)];rfl
 have eo:∀m,m<=l.length->jD (flA pl l l.length) (pr (uW pl p) 0 1) 0 1 m=jD l (pr p (axI pl.1) (axJ pl.1)) (axI pl.1) (axJ pl.1) m:=by
  intro m
  induction m with
  |zero=>intro _;rfl
  |succ m ih=>
   intro h
   show((uO _ _ _/\¬jD _ _ _ _ m)\/(¬uO _ _ _/\jD _ _ _ _ m))=((uO _ _ _/\¬jD _ _ _ _ m)\/(¬uO _ _ _/\jD _ _ _ _ m))
   rw[ih zoq,eA m zoq,eB m zoq];rfl
 have ee:(∃m,m<(flA pl l l.length).length/\onS (wV (flA pl l l.length) 0 1 m) (wU (flA pl l l.length) 0 1 m) (pr (uW pl p) 0 1))=(∃m,m<l.length/\onS (wV l (axI pl.1) (axJ pl.1) m) (wU l (axI pl.1) (axJ pl.1) m) (pr p (axI pl.1) (axJ pl.1))):=by
  refine propext ⟨?_,?_⟩
  · rintro⟨m,h,k⟩
    rw[hl] at h;rw[eA m h,eB m h] at k;exact⟨m,h,k⟩
  · rintro⟨m,h,k⟩
    refine⟨m,by rw[hl];exact h,?_⟩;rw[eA m h,eB m h];exact k
 have eo':=eo l.length (Nat.le_refl _);rw[<-hl] at eo';unfold gA
 by_cases h:∃m,m<l.length/\onS (wV l (axI pl.1) (axJ pl.1) m) (wU l (axI pl.1) (axJ pl.1) m) (pr p (axI pl.1) (axJ pl.1))
 · rw[if_pos (ee.mpr h),if_pos h]
 · rw[if_neg λe=>h (ee.mp e),if_neg h]
   rw[hl] at eo' ⊢
   by_cases h2:jD l (pr p (axI pl.1) (axJ pl.1)) (axI pl.1) (axJ pl.1) l.length
   · rw[if_pos (eo'.mpr h2),if_pos h2]
   · rw[if_neg λe=>h2 (eo'.mp e),if_neg h2]
theorem zBA(s:Sd)(f:Nat)(p:Pt):whF s f p=whZ (xE s f) (pr p (axI (s.2.1.getD f zA).1.1) (axJ (s.2.1.getD f zA).1.1)) (axI (s.2.1.getD f zA).1.1) (axJ (s.2.1.getD f zA).1.1):=by
 unfold whF;generalize he:(s.2.1.getD f zA).1=pl;have hl:(gC s f).length=(xE s f).length:=(zA9 s f).1;have hg:∀m,m<(xE s f).length->(gC s f).getD m []=flA pl (gl (xE s f) m) (gl (xE s f) m).length:=λm h=>by
  subst he;exact qY (λi=>flA (s.2.1.getD f zA).1 (gl (xE s f) i) (gl (xE s f) i).length) [] h
 have hi:∀m,m<(xE s f).length->gA ((gC s f).getD m []) (pr (uW pl p) 0 1) 0 1=gA ((xE s f).getD m []) (pr p (axI pl.1) (axJ pl.1)) (axI pl.1) (axJ pl.1):=λm h=>by
  rw[hg m h];exact zY1 pl _ p
 have ht:∀m,m<=(xE s f).length->eU (gC s f) (pr (uW pl p) 0 1) 0 1 m=eU (xE s f) (pr p (axI pl.1) (axJ pl.1)) (axI pl.1) (axJ pl.1) m:=by
  intro m
  induction m with
  |zero=>intro _;rfl
  |succ m ih=>
   intro h
   show(if _ then _ else _)=(if _ then _ else _)
   rw[ih zoq,hi m zoq]
 have ee:(∃m,m<(gC s f).length/\gA ((gC s f).getD m []) (pr (uW pl p) 0 1) 0 1=0)=(∃m,m<(xE s f).length/\gA ((xE s f).getD m []) (pr p (axI pl.1) (axJ pl.1)) (axI pl.1) (axJ pl.1)=0):=by
  refine propext ⟨?_,?_⟩
  · rintro⟨m,h,k⟩
    rw[hl] at h;rw[hi m h] at k;exact⟨m,h,k⟩
  · rintro⟨m,h,k⟩
    refine⟨m,by rw[hl];exact h,?_⟩;rw[hi m h];exact k
 unfold whZ
 by_cases h:∃m,m<(xE s f).length/\gA ((xE s f).getD m []) (pr p (axI pl.1) (axJ pl.1)) (axI pl.1) (axJ pl.1)=0
 · rw[if_pos (ee.mpr h),if_pos h]
 · rw[if_neg λe=>h (ee.mp e),if_neg h,hl]
   exact ht _ (Nat.le_refl _)
theorem yDE(L:List (List Pt))(p:P2)(i j:Nat):∀m,eU L p i j m≠0
  |0=>by unfold eU;decide
  |m+1=>by
   have:=yDE L p i j m;unfold eU
   split<;>omega
theorem yLQ{N A B q:Pt}{D:Rat}(hN:¬N.at (axK N)=0)(hA:zE N A=D)(hB:zE N B=D)(hq:zE N q=D)(hc:cr (pr A (axI N) (axJ N)) (pr B (axI N) (axJ N)) (pr q (axI N) (axJ N))=0):zY (yO B A) (yO q A)=zT:=by
 obtain⟨M,J,H⟩:=N;obtain⟨a1,a2,a3⟩:=A;obtain⟨b1,b2,b3⟩:=B;obtain⟨q1,Z,U⟩:=q;unfold zE at hA hB hq;unfold zY yO;rw[qS];simp only at hA hB hq ⊢;have C:∀O x:Rat,O≠0->O*x=0->x=0:=λO x h e=>(zoe.1 e).resolve_left h
 rcases zR8 ⟨M,J,H⟩ with⟨e1,e2,e3⟩|⟨e1,e2,e3⟩|⟨e1,e2,e3⟩|⟨e1,e2,e3⟩|⟨e1,e2,e3⟩|⟨e1,e2,e3⟩<;>rw[e1,e2] at hc<;>rw[e3] at hN<;>simp only[cr,pr,T3.at] at hc hN
 · exact⟨C H _ hN zow,C H _ hN zow,by grind⟩
 · exact⟨C H _ hN zow,C H _ hN zow,by grind⟩
 · exact⟨C J _ hN zow,by grind,C J _ hN zow⟩
 · exact⟨C J _ hN zow,by grind,C J _ hN zow⟩
 · exact⟨by grind,C M _ hN zow,C M _ hN zow⟩
 · exact⟨by grind,C M _ hN zow,C M _ hN zow⟩
theorem yH7{p d A B:Pt}{t:Rat}(ht:t≠0)(h:zY (yO B A) (yO (pO p d t) A)=zT):lI p A B d:=by
 obtain⟨O,M,J⟩:=p;obtain⟨a1,a2,a3⟩:=A;obtain⟨b1,b2,b3⟩:=B;obtain⟨d1,Z,U⟩:=d;have C:∀x:Rat,t*x=0->x=0:=λx e=>(zoe.1 e).resolve_left ht;unfold lI;unfold zY yO pO xZ scT at h;rw[qS] at h;obtain⟨h1,h2,h3⟩:=h;simp only at h1 h2 h3
 split
 · rename_i hc
   unfold zY yO at *;rw[qS] at *;obtain⟨H,c2,D⟩:=hc;simp only at H c2 D ⊢;exact⟨C _ zow,C _ zow,C _ zow⟩
 · refine C _ ?_
   unfold yB zE zY yO;simp only;grind
def zGQ(s:Sd)(p v:Pt):Prop:=∀f,f<s.2.1.length->∀l,l<(xE s f).length->∀k,k<(gl (xE s f) l).length->gp (gl (xE s f) l) k≠gp (gl (xE s f) l) ((k+1)%(gl (xE s f) l).length)->¬lI p (gp (gl (xE s f) l) k) (gp (gl (xE s f) l) ((k+1)%(gl (xE s f) l).length)) v
def zM2(s:Sd):Prop:=∀f,f<s.2.1.length->¬(s.2.1.getD f zA).1.1=zT/\∀l,l<(xE s f).length->∀k,k<(gl (xE s f) l).length->zE (s.2.1.getD f zA).1.1 (gp (gl (xE s f) l) k)=(s.2.1.getD f zA).1.2/\gp (gl (xE s f) l) k≠gp (gl (xE s f) l) ((k+1)%(gl (xE s f) l).length)
theorem zRQ(N p d:Pt)(t:Rat):zE N (pO p d t)=zE N p+t*zE N d:=by
 unfold zE pO xZ scT;simp only;grind
theorem zQC{L:List (List Pt)}{p:P2}{i j:Nat}(h:whZ L p i j=0):∃m,m<L.length/\∃k,k<(gl L m).length/\onS (wV (gl L m) i j k) (wU (gl L m) i j k) p:=by
 unfold whZ at h
 split at h
 · rename_i h1
   obtain⟨m,D,hz⟩:=h1;unfold gA at hz
   split at hz
   · rename_i h2
     obtain⟨k,hk,C⟩:=h2;exact⟨m,D,k,hk,C⟩
   · split at hz<;>exact absurd hz zot
 · exact absurd h (yDE _ _ _ _ _)
theorem zO9{s:Sd}{p d:Pt}{f:Nat}(hs:zM2 s)(hf:f<s.2.1.length)(hc:zGQ s p d)(hk:¬skP s p d f):whF s f (pO p d (hnF s p f/cnF s d f))≠0:=by
 intro h0;rw[zBA] at h0;obtain⟨l,J,k,D,O⟩:=zQC h0;obtain⟨hz,C⟩:=hs f hf;have U:cnF s d f≠0:=λe=>hk (by unfold skP;rw[aX,e];grind);have ht:hnF s p f/cnF s d f≠0:=λe=>hk (by
  have:hnF s p f=0:=by
   have h1:hnF s p f=hnF s p f/cnF s d f*cnF s d f:=by generalize cnF s d f=c at *;grind
   rw[e] at h1;grind
  unfold skP;rw[aX,this];grind)
 have M:zE (s.2.1.getD f zA).1.1 (pO p d (hnF s p f/cnF s d f))=(s.2.1.getD f zA).1.2:=by
  rw[zRQ];have h1:hnF s p f/cnF s d f*cnF s d f=hnF s p f:=by generalize cnF s d f=c at *;grind
  have h2:zE (s.2.1.getD f zA).1.1 d=cnF s d f:=I;rw[h2,h1];unfold hnF;grind
 obtain⟨hA,H⟩:=C l J k D;have hB:=(C l J ((k+1)%(gl (xE s f) l).length) (Nat.mod_lt _ zoq)).1;have hN:¬(s.2.1.getD f zA).1.1.at (axK (s.2.1.getD f zA).1.1)=0:=λe=>hz ((zR7 _).1 e);exact hc f hf l J k D H (yH7 ht (yLQ hN hA hB M O.2.2))
abbrev PIr:=Int×Int
def mmI(a b:Int):PIr:=(min a b,max a b)
def ptI(P:List Pt)(i:Int):Pt:=gp P i.toNat
noncomputable def sxE(P:List Pt)(x:List Int)(S:List PIr):Nat->List PIr
  |0=>S
  |k+1=>if mmI (x.getD k 0) (x.getD ((k+1)%x.length) 0)∈sxE P x S k\/ptI P (x.getD k 0)=ptI P (x.getD ((k+1)%x.length) 0) then sxE P x S k else sxE P x S k++[mmI (x.getD k 0) (x.getD ((k+1)%x.length) 0)]
noncomputable def slE(P:List Pt)(L:List (List Int))(S:List PIr):Nat->List PIr
  |0=>S
  |l+1=>sxE P (L.getD l []) (slE P L S l) (L.getD l []).length
noncomputable def sfE(s:Sd):Nat->List PIr
  |0=>[]
  |f+1=>slE s.1 (s.2.1.getD f zA).2.1 (sfE s f) (s.2.1.getD f zA).2.1.length
def ptP(P:List Pt)(e:PIr):Pt×Pt:=(ptI P e.1,ptI P e.2)
def isE(P:List Pt)(x:List Int)(n:Nat)(e:PIr):Prop:=∃k,k<n/\e=mmI (x.getD k 0) (x.getD ((k+1)%x.length) 0)/\ptI P (x.getD k 0)≠ptI P (x.getD ((k+1)%x.length) 0)
theorem zVE(P:List Pt)(x:List Int)(S:List PIr)(e:PIr):∀n,e∈sxE P x S n↔e∈S\/isE P x n e
  |0=>⟨.inl,λh=>h.elim id λ⟨_,h,_⟩=>absurd h (Nat.not_lt_zero _)⟩
  |n+1=>by
   have ih:=zVE P x S e n;have hs:isE P x (n+1) e↔isE P x n e\/(e=mmI (x.getD n 0) (x.getD ((n+1)%x.length) 0)/\ptI P (x.getD n 0)≠ptI P (x.getD ((n+1)%x.length) 0)):=by
    constructor
    · rintro⟨k,hk,h⟩
      rcases Nat.lt_succ_iff_lt_or_eq.1 hk with h1|rfl
      · exact .inl ⟨k,h1,h⟩
      · exact .inr h
    · rintro(⟨k,hk,h⟩|h)
      · exact⟨k,by omega,h⟩
      · exact⟨n,by omega,h⟩
   unfold sxE
   by_cases hc:mmI (x.getD n 0) (x.getD ((n+1)%x.length) 0)∈sxE P x S n\/ptI P (x.getD n 0)=ptI P (x.getD ((n+1)%x.length) 0)
   · rw[if_pos hc,ih,hs]
     constructor
     · rintro(h|h)
       · exact .inl h
       · exact .inr (.inl h)
     · rintro(h|h|⟨h1,h2⟩)
       · exact .inl h
       · exact .inr h
       · rcases hc with hc|hc
         · rw[<-h1] at hc
           exact ih.1 hc
         · exact absurd hc h2
   · rw[if_neg hc,List.mem_append,ih,hs,List.mem_singleton]
     constructor
     · rintro((h|h)|h)
       · exact .inl h
       · exact .inr (.inl h)
       · exact .inr (.inr ⟨h,λe=>hc (.inr e)⟩)
     · rintro(h|h|⟨h1,_⟩)
       · exact .inl (.inl h)
       · exact .inl (.inr h)
       · exact .inr h1
theorem zVN(P:List Pt)(L:List (List Int))(S:List PIr)(e:PIr):∀n,e∈slE P L S n↔e∈S\/∃l,l<n/\isE P (L.getD l []) (L.getD l []).length e
  |0=>⟨.inl,λh=>h.elim id λ⟨_,h,_⟩=>absurd h (Nat.not_lt_zero _)⟩
  |n+1=>by
   unfold slE;rw[zVE,zVN P L S e n];constructor
   · rintro((h|⟨l,hl,h⟩)|h)
     · exact .inl h
     · exact .inr ⟨l,by omega,h⟩
     · exact .inr ⟨n,by omega,h⟩
   · rintro(h|⟨l,hl,h⟩)
     · exact .inl (.inl h)
     · rcases Nat.lt_succ_iff_lt_or_eq.1 hl with h1|rfl
       · exact .inl (.inr ⟨l,h1,h⟩)
       · exact .inr h
theorem zI8(s:Sd)(e:PIr):∀n,e∈sfE s n↔∃f,f<n/\∃l,l<(s.2.1.getD f zA).2.1.length/\isE s.1 ((s.2.1.getD f zA).2.1.getD l []) ((s.2.1.getD f zA).2.1.getD l []).length e
  |0=>⟨λh=>absurd h List.not_mem_nil,λ⟨_,h,_⟩=>absurd h (Nat.not_lt_zero _)⟩
  |n+1=>by
   unfold sfE;rw[zVN,zI8 s e n];constructor
   · rintro(⟨f,hf,h⟩|h)
     · exact⟨f,by omega,h⟩
     · exact⟨n,by omega,h⟩
   · rintro⟨f,hf,h⟩
     rcases Nat.lt_succ_iff_lt_or_eq.1 hf with h1|rfl
     · exact .inl ⟨f,h1,h⟩
     · exact .inr h
theorem zKP{s:Sd}{f:Nat}(hf:f<s.2.1.length)(hn:nmP s f):(xE s f).length=(s.2.1.getD f zA).2.1.length/\∀l,l<(s.2.1.getD f zA).2.1.length->(gl (xE s f) l).length=((s.2.1.getD f zA).2.1.getD l []).length/\∀k,k<((s.2.1.getD f zA).2.1.getD l []).length->gp (gl (xE s f) l) k=ptI s.1 (((s.2.1.getD f zA).2.1.getD l []).getD k 0):=by
 have e:xE s f=zGJ s f (s.2.1.getD f zA).2.1.length:=by
  unfold xE;rw[if_pos ⟨⟨by omega,by omega⟩,by rw[Int.toNat_natCast];exact hn⟩,Int.toNat_natCast]
 rw[e];refine⟨xK _ _,λl C=>?_⟩;have D:gl (zGJ s f (s.2.1.getD f zA).2.1.length) l=zE2 s.1 ((s.2.1.getD f zA).2.1.getD l []) ((s.2.1.getD f zA).2.1.getD l []).length:=qY _ _ C;rw[D];exact⟨xK _ _,λk hk=>qY (λk=>gp s.1 (((s.2.1.getD f zA).2.1.getD l []).getD k 0).toNat) _ hk⟩
theorem zYP{P:List Pt}{p v:Pt}(a b:Int):lI p (ptI P (mmI a b).1) (ptI P (mmI a b).2) v↔lI p (ptI P a) (ptI P b) v:=by
 unfold mmI
 by_cases h:a<=b
 · show lI p (ptI P (min a b)) (ptI P (max a b)) v↔_
   rw[Int.min_eq_left h,Int.max_eq_right h]
 · show lI p (ptI P (min a b)) (ptI P (max a b)) v↔_
   rw[Int.min_eq_right zoq,Int.max_eq_left zoq];exact⟨zMZ,zMZ⟩
theorem zKR{s:Sd}(hn:nmA s)(p v:Pt):zGQ s p v↔∀e,e∈sfE s s.2.1.length->¬lI p (ptI s.1 e.1) (ptI s.1 e.2) v:=by
 constructor
 · intro h e M
   obtain⟨f,hf,l,J,k,hk,rfl,C⟩:=(zI8 s e _).1 M;obtain⟨O,c2⟩:=zKP hf (hn f hf);obtain⟨H,D⟩:=c2 l J;rw[zYP];have:=h f hf l zoq k zoq;rw[H,D k hk,D _ (Nat.mod_lt _ zoq)] at this;exact this C
 · intro h f hf l J k hk C
   obtain⟨O,c2⟩:=zKP hf (hn f hf);obtain⟨H,D⟩:=c2 l zoq;rw[H] at hk C ⊢;rw[D k hk,D _ (Nat.mod_lt _ zoq)] at C ⊢;rw[<-zYP];exact h _ ((zI8 s _ _).2 ⟨f,hf,l,by omega,k,hk,I,C⟩)
theorem yDO{s:Sd}{e:PIr}{n:Nat}(he:e∈sfE s n):ptI s.1 e.1≠ptI s.1 e.2:=by
 obtain⟨f,hf,l,D,k,hk,rfl,C⟩:=(zI8 s e n).1 he;generalize ((s.2.1.getD f zA).2.1.getD l []).getD k 0=a at *;generalize ((s.2.1.getD f zA).2.1.getD l []).getD ((k+1)%((s.2.1.getD f zA).2.1.getD l []).length) 0=b at *;unfold mmI
 by_cases h:a<=b
 · show ptI s.1 (min a b)≠ptI s.1 (max a b)
   rw[Int.min_eq_left h,Int.max_eq_right h];exact C
 · show ptI s.1 (min a b)≠ptI s.1 (max a b)
   rw[Int.min_eq_right zoq,Int.max_eq_left zoq];exact C.symm
noncomputable def dirN(s:Sd)(p:Pt):Nat:=oT λk=>zGQ s p (vK k)
theorem iS{s:Sd}(hn:nmA s)(p:Pt):dirN s p<=2*(sfE s s.2.1.length).length/\zGQ s p (vK (dirN s p))/\∀j:Nat,j<dirN s p->¬zGQ s p (vK j):=by
 obtain⟨k,hk,D⟩:=zOI (λ(e:PIr) (k:Nat)=>lI p (ptI s.1 e.1) (ptI s.1 e.2) (vK k)) (sfE s s.2.1.length) (List.range (2*(sfE s s.2.1.length).length+1)) List.nodup_range (by rw[List.length_range];omega) λe H i j k h1 h2 h3 a b c=>yD2 (yDO H) h1 h2 h3 a b c;have C:zGQ s p (vK k):=(zKR hn p _).2 D;obtain⟨h1,h2,h3⟩:=j6 (q:=λk:Nat=>zGQ s p (vK k)) C;have:=zog.1 hk;exact⟨by unfold dirN;omega,h2,h3⟩
theorem zGD{α:Type}{g:Nat->List α}:∀{n},tN g n=[]->∀i,i<n->g i=[]
  |0,_,i,h=>absurd h (Nat.not_lt_zero i)
  |n+1,e,i,h=>by
   have e':tN g n++g n=[]:=e;rw[List.append_eq_nil_iff] at e'
   rcases Nat.lt_succ_iff_lt_or_eq.1 h with h1|rfl
   · exact zGD e'.1 i h1
   · exact e'.2
theorem dA{s:Sd}(h:kZ s):szZ s=[]/\zK2 s s.1.length=[]/\plZ s=[]/\neZ s=[]/\clZ (wR s)=[]:=by
 unfold kZ zZJ at h
 by_cases h1:0<(szZ s).length
 · rw[if_pos h1] at h;omega
 · rw[if_neg h1] at h
   by_cases h2:0<(zK2 s s.1.length).length
   · rw[if_pos h2] at h;omega
   · rw[if_neg h2] at h
     by_cases h3:0<(plZ s).length
     · rw[if_pos h3] at h;omega
     · rw[if_neg h3] at h
       by_cases h4:0<(neZ s).length
       · rw[if_pos h4] at h;omega
       · rw[if_neg h4] at h
         exact⟨zof zoq,zof zoq,zof zoq,zof zoq,zof h⟩
theorem w5{s:Sd}(h:kZ s){f:Nat}(hf:f<s.2.1.length):vfP (s.2.1.getD f zA).2.1/\nmP s f:=by
 have hz:=(dA h).1;unfold szZ at hz
 by_cases hb:zNM s
 · rw[if_pos hb] at hz;simp at hz
 · rw[if_neg hb] at hz
   have:=(oC (p:=szP s) _).1 hz f hf;unfold szP at this;exact⟨Classical.not_not.1 λe=>this (.inl e),Classical.not_not.1 λe=>this (.inr e)⟩
theorem pS{s:Sd}(h:kZ s):nmA s:=λf hf=>(w5 h hf).2
theorem yAW{s:Sd}(h:kZ s){i k:Nat}(hi:i<s.1.length)(hk:k<s.1.length)(hne:i≠k):gp s.1 i≠gp s.1 k:=by
 have ht:=(oC (p:=twP s) _).1 (dA h).2.1;intro e
 rcases Nat.lt_or_gt_of_ne hne with h1|h1
 · exact ht k hk ⟨i,h1,e.symm⟩
 · exact ht i hi ⟨k,h1,e⟩
theorem aW{s:Sd}(h:kZ s):zM2 s:=by
 have H:=(dA h).2.2.1;unfold plZ at H
 by_cases hz:0<(zSB s s.2.1.length).length
 · rw[if_pos hz] at H;rw[H] at hz;exact absurd hz zot
 · rw[if_neg hz] at H
   have M:=(oC (p:=zrP s) _).1 (zof (Nat.le_zero.1 (Nat.not_lt.1 hz)));intro f hf;obtain⟨hv,O⟩:=w5 h hf;obtain⟨c1,c2⟩:=zKP hf O;refine⟨M f hf,λl hl k hk=>⟨?_,?_⟩⟩
   · have o1:=zGD (zGD H f hf) l hl
     have o2:=(oC (p:=ofP s f l) _).1 o1 k hk;have U:=Classical.not_not.1 o2;unfold sdZ hgt at U;have:=uF.1 U;grind
   · have C:l<(s.2.1.getD f zA).2.1.length:=by omega
     obtain⟨c3,Z⟩:=c2 l C;rw[c3] at hk ⊢;have D:=hv.2 l C;have J:(k+1)%((s.2.1.getD f zA).2.1.getD l []).length<((s.2.1.getD f zA).2.1.getD l []).length:=Nat.mod_lt _ zoq;rw[Z k hk,Z _ J];have n1:=O l C k hk;have n2:=O l C _ J;have aa:((s.2.1.getD f zA).2.1.getD l []).getD k 0≠((s.2.1.getD f zA).2.1.getD l []).getD ((k+1)%((s.2.1.getD f zA).2.1.getD l []).length) 0:=by
      generalize ((s.2.1.getD f zA).2.1.getD l [])=x at *;have h3:=D.1.1
      rcases Nat.lt_or_ge (k+1) x.length with h4|h4
      · rw[zoh h4]
        exactλe=>(D.2 (k+1) h4).2 k zoq e.symm
      · have e0:k+1=x.length:=by omega
        rw[e0,Nat.mod_self];exact(D.2 k hk).2 0 zoq
     exact yAW h zoq zoq zoq
variable {a b p d:Pt}
theorem yIZ{f:Nat}(hf:f<6):cnF (bxS a b) d f=if f%2=1 then d.at (f/2) else-d.at (f/2):=by
 unfold cnF;have e:((bxS a b).2.1.getD f zA).1.1=dN (kV f) 1:=congrArg Prod.fst (dS (a:=a) (b:=b) hf).2;rw[e];have:f=0\/f=1\/f=2\/f=3\/f=4\/f=5:=by omega
 rcases this with rfl|rfl|rfl|rfl|rfl|rfl<;>(simp[kV,dN,T3.set,zE,T3.at];try grind)
theorem yH6{f:Nat}(hf:f<6):hnF (bxS a b) p f=if f%2=1 then b.at (f/2)-p.at (f/2) else p.at (f/2)-a.at (f/2):=by
 unfold hnF;have e:((bxS a b).2.1.getD f zA).1=plD a b (kV f):=(dS (a:=a) (b:=b) hf).2;rw[e];have:f=0\/f=1\/f=2\/f=3\/f=4\/f=5:=by omega
 rcases this with rfl|rfl|rfl|rfl|rfl|rfl<;>(simp[kV,plD,dN,T3.set,zE,T3.at];try grind)
theorem yET(h:∀i,a.at i<b.at i){u s:Nat}(hu:u<3)(hs:s<2)(q:Pt):
 (whF (bxS a b) (2*u+s) q=0↔(kI a b q ((u+1)%3)/\kI a b q ((u+2)%3))/\¬(sI a b q ((u+1)%3)/\sI a b q ((u+2)%3)))/\(whF (bxS a b) (2*u+s) q=1↔sI a b q ((u+1)%3)/\sI a b q ((u+2)%3)):=by
 have hk:∀v,sI a b q v->kI a b q v:=λv e=>⟨Rat.le_of_lt e.1,Rat.le_of_lt e.2⟩;have C:∀v w,whF (bxS a b) (2*u+s) q=(if(kI a b q v/\kI a b q w)/\¬(sI a b q v/\sI a b q w) then 0 else if sI a b q v/\sI a b q w then 1 else -1)->
  (whF (bxS a b) (2*u+s) q=0↔(kI a b q v/\kI a b q w)/\¬(sI a b q v/\sI a b q w))/\(whF (bxS a b) (2*u+s) q=1↔sI a b q v/\sI a b q w):=λv w e=>by
  rw[e]
  by_cases h1:(kI a b q v/\kI a b q w)/\¬(sI a b q v/\sI a b q w)
  · rw[if_pos h1]
    exact⟨⟨λ_=>h1,λ_=>I⟩,λe=>absurd e zot,λe=>absurd e h1.2⟩
  · rw[if_neg h1]
    by_cases h2:sI a b q v/\sI a b q w
    · rw[if_pos h2]
      exact⟨⟨λe=>absurd e zot,λe=>absurd e h1⟩,λ_=>h2,λ_=>I⟩
    · rw[if_neg h2]
      exact⟨⟨λe=>absurd e zot,λe=>absurd e h1⟩,λe=>absurd e zot,λe=>absurd e h2⟩
 have e:=yDG h (f:=2*u+s) zoq q;have D:∀v w,((kI a b q v/\kI a b q w)/\¬(sI a b q v/\sI a b q w))=((kI a b q w/\kI a b q v)/\¬(sI a b q w/\sI a b q v))/\(sI a b q v/\sI a b q w)=(sI a b q w/\sI a b q v):=λv w=>by
  constructor<;>(apply propext;constructor<;>grind)
 have:(u=0\/u=1\/u=2)/\(s=0\/s=1):=by omega
 rcases this with⟨rfl|rfl|rfl,rfl|rfl⟩
 · have k:=C 2 1 e;rw[(D 2 1).1,(D 2 1).2] at k;exact k
 · exact C 1 2 e
 · have k:=C 0 2 e;rw[(D 0 2).1,(D 0 2).2] at k;exact k
 · exact C 2 0 e
 · have k:=C 1 0 e;rw[(D 1 0).1,(D 1 0).2] at k;exact k
 · exact C 0 1 e
theorem w9(t:Rat):∀u,(pO p d t).at u=p.at u+t*d.at u
  |0=>rfl
  |1=>rfl
  |_+2=>rfl
theorem rY{x l t:Rat}(hx:0<x):l*x<t*x↔l<t:=by
 constructor
 · intro h
   refine Rat.not_le.1 λe=>?_;have:0<=(l-t)*x:=zod zow (Rat.le_of_lt hx);grind
 · intro h
   have:=xD (show 0<t-l by grind) hx;grind
theorem oN{x l t:Rat}(hx:0<x):l*x<=t*x↔l<=t:=by
 rw[<-Rat.not_lt,<-Rat.not_lt,rY hx]
structure Ax(a b p d:Pt)(M:Rat)(u:Nat)(l h:Rat):Prop where
 lt:l<h
 z:d.at u=0->l= -M/\h=M
 n:d.at u≠0->(-M<l/\l<M)/\-M<h/\h<M
 s:∀t,-M<t->t<M->(sI a b (pO p d t) u↔l<t/\t<h)
 k:∀t,-M<t->t<M->(kI a b (pO p d t) u↔l<=t/\t<=h)
 pos:0<d.at u->l*d.at u=a.at u-p.at u/\h*d.at u=b.at u-p.at u
 neg:d.at u<0->l*d.at u=b.at u-p.at u/\h*d.at u=a.at u-p.at u
theorem yJF{M:Rat}{u:Nat}(hab:a.at u<b.at u)(hd:0<d.at u){l h:Rat}(hl:l*d.at u=a.at u-p.at u)(hh:h*d.at u=b.at u-p.at u)(hM:(-M<l/\l<M)/\-M<h/\h<M):Ax a b p d M u l h:=by
 refine⟨?_,λe=>by grind,λ_=>hM,λt _ _=>?_,λt _ _=>?_,λ_=>⟨hl,hh⟩,λe=>by grind⟩
 · rw[<-rY hd];grind
 · unfold sI;rw[w9,<-rY (l:=l) hd,<-rY (l:=t) hd];constructor<;>intro h<;>constructor<;>grind
 · unfold kI;rw[w9,<-oN (l:=l) hd,<-oN (l:=t) hd];constructor<;>intro h<;>constructor<;>grind
theorem yJG{M:Rat}{u:Nat}(hab:a.at u<b.at u)(hd:d.at u<0){l h:Rat}(hl:l*d.at u=b.at u-p.at u)(hh:h*d.at u=a.at u-p.at u)(hM:(-M<l/\l<M)/\-M<h/\h<M):Ax a b p d M u l h:=by
 have C:0< -d.at u:=by grind
 refine⟨?_,λe=>by grind,λ_=>hM,λt _ _=>?_,λt _ _=>?_,λe=>by grind,λ_=>⟨hl,hh⟩⟩
 · rw[<-rY C];grind
 · unfold sI;rw[w9,<-rY (l:=l) C,<-rY (l:=t) C];constructor<;>intro h<;>constructor<;>grind
 · unfold kI;rw[w9,<-oN (l:=l) C,<-oN (l:=t) C];constructor<;>intro h<;>constructor<;>grind
theorem zZW{M:Rat}{u:Nat}(hM:0<M)(hd:d.at u=0)(hs:sI a b p u):Ax a b p d M u (-M) M:=by
 have e:∀t,(pO p d t).at u=p.at u:=λt=>by rw[w9,hd];grind
 refine⟨by grind,λ_=>⟨I,I⟩,λh=>absurd hd h,λt h1 h2=>?_,λt h1 h2=>?_,λh=>by grind,λh=>by grind⟩
 · unfold sI at *;rw[e];exact⟨λ_=>⟨h1,h2⟩,λ_=>hs⟩
 · unfold kI;unfold sI at hs;rw[e];exact⟨λ_=>⟨Rat.le_of_lt h1,Rat.le_of_lt h2⟩,λ_=>⟨Rat.le_of_lt hs.1,Rat.le_of_lt hs.2⟩⟩
theorem yLP{s:Sd}{f:Nat}{t:Rat}(hc:cnF s d f≠0)(ht:hnF s p f=t*cnF s d f):(skP s p d f↔¬0<t)/\hnF s p f/cnF s d f=t:=by
 refine⟨?_,?_⟩
 · unfold skP
   rw[aX,ht];generalize cnF s d f=c at *;refine not_congr ⟨?_,λh0=>?_⟩
   · rintro(⟨h1,h2⟩|⟨h1,h2⟩)
     · refine Rat.not_le.1 λe=>?_
       have:0<=(-t)*c:=zod zow (Rat.le_of_lt h1);grind
     · refine Rat.not_le.1 λe=>?_
       have:0<=(-t)*(-c):=zod zow zow;grind
   · by_cases h1:0<c
     · exact .inl ⟨h1,xD h0 h1⟩
     · have:=xD h0 (show 0< -c by grind)
       exact .inr ⟨by grind,by grind⟩
 · rw[ht]
   generalize cnF s d f=c at *;grind
theorem zBC(hab:∀i,a.at i<b.at i){M:Rat}{u s:Nat}(hu:u<3)(hs:s<2){t lv hv lw hw:Rat}(V:Ax a b p d M ((u+1)%3) lv hv)(W:Ax a b p d M ((u+2)%3) lw hw)(h1:-M<t)(h2:t<M)
    (hc:cnF (bxS a b) d (2*u+s)≠0)(ht:hnF (bxS a b) p (2*u+s)=t*cnF (bxS a b) d (2*u+s)):
    crE (bxS a b) p d (2*u+s)=(if 0<cnF (bxS a b) d (2*u+s) then 1 else -1)*cW (exI t lv hv lw hw)/\((¬skP (bxS a b) p d (2*u+s)->whF (bxS a b) (2*u+s) (pO p d (hnF (bxS a b) p (2*u+s)/cnF (bxS a b) d (2*u+s)))≠0)->iH t lv hv lw hw):=by
 obtain⟨hk,D⟩:=yLP hc ht;obtain⟨w0,C⟩:=yET hab hu hs (pO p d t);rw[V.s t h1 h2,W.s t h1 h2] at w0 C;rw[V.k t h1 h2,W.k t h1 h2] at w0;refine⟨?_,?_⟩
 · unfold crE
   rw[D]
   by_cases h0:0<t
   · rw[if_neg λe=>hk.1 e h0]
     by_cases hw1:(lv<t/\t<hv)/\lw<t/\t<hw
     · rw[if_pos (C.2 hw1),lE (show exI t lv hv lw hw from⟨h0,hw1⟩),Int.mul_one]
     · rw[if_neg λe=>hw1 (C.1 e),jZ (show ¬exI t lv hv lw hw fromλe=>hw1 e.2),Int.mul_zero]
   · rw[if_pos (hk.2 h0),jZ (show ¬exI t lv hv lw hw fromλe=>h0 e.1),Int.mul_zero]
 · intro H h0 J c2
   rw[D] at H;exact Classical.not_not.1 λe=>H (λk=>hk.1 k h0) (w0.2 ⟨⟨J,c2⟩,e⟩)
theorem yIK{M t lv hv lw hw:Rat}{v w:Nat}(V:Ax a b p d M v lv hv):¬exI M lv hv lw hw:=λe=>by
 by_cases h:d.at v=0
 · have:=(V.z h).2;unfold exI at e;grind
 · have:=(V.n h).2.2;unfold exI at e;grind
theorem zGV(hab:∀i,a.at i<b.at i){M:Rat}(hM:0<M){u:Nat}(hu:u<3){l h lv hv lw hw:Rat}(U:Ax a b p d M u l h)(V:Ax a b p d M ((u+1)%3) lv hv)(W:Ax a b p d M ((u+2)%3) lw hw)
    (hz:d.at u=0->d.at ((u+1)%3)≠0\/d.at ((u+2)%3)≠0)(hb:∀f,f<6->¬skP (bxS a b) p d f->whF (bxS a b) f (pO p d (hnF (bxS a b) p f/cnF (bxS a b) d f))≠0):
    crE (bxS a b) p d (2*u)+crE (bxS a b) p d (2*u+1)=cW (exI h lv hv lw hw)-cW (enI l lv hv lw hw)/\iH h lv hv lw hw/\iH l lv hv lw hw:=by
 have H:cnF (bxS a b) d (2*u+0)= -d.at u:=by rw[yIZ zoq,if_neg zoq,show(2*u+0)/2=u by omega]
 have D:cnF (bxS a b) d (2*u+1)=d.at u:=by rw[yIZ zoq,if_pos zoq,show(2*u+1)/2=u by omega]
 have n0:hnF (bxS a b) p (2*u+0)=p.at u-a.at u:=by rw[yH6 zoq,if_neg zoq,show(2*u+0)/2=u by omega]
 have n1:hnF (bxS a b) p (2*u+1)=b.at u-p.at u:=by rw[yH6 zoq,if_pos zoq,show(2*u+1)/2=u by omega]
 by_cases hd:d.at u=0
 · obtain⟨el,eh⟩:=U.z hd
   have Z:crE (bxS a b) p d (2*u+0)=0:=by
    unfold crE;refine if_pos ?_;unfold skP;rw[aX,H,hd];grind
   have z1:crE (bxS a b) p d (2*u+1)=0:=by
    unfold crE;refine if_pos ?_;unfold skP;rw[aX,D,hd];grind
   have x1:¬exI h lv hv lw hw:=by rw[eh];exact yIK (t:=M) (w:=0) V
   have x2:¬enI l lv hv lw hw:=λe=>by unfold enI at e;grind
   refine⟨?_,?_,λe=>by grind⟩
   · rw[Nat.add_zero] at Z
     rw[Z,z1,jZ x1,jZ x2];rfl
   · intro _ e2 e3
     rcases hz hd with k|k
     · have:=(V.n k).2.2;grind
     · have:=(W.n k).2.2;grind
 · obtain⟨⟨m1,m2⟩,m3,m4⟩:=U.n hd
   by_cases hp:0<d.at u
   · obtain⟨q1,q2⟩:=U.pos hp
     obtain⟨r1,J⟩:=zBC hab hu (s:=1) zot V W m3 m4 (by rw[D];exact hd) (by rw[n1,D,q2]);obtain⟨C,O⟩:=zBC hab hu (s:=0) zot V W m1 m2 (by rw[H];grind) (by rw[n0,H];grind);refine⟨?_,J (hb _ zoq),O (hb _ zoq)⟩;rw[D,if_pos hp] at r1;rw[H,if_neg zow] at C;rw[Nat.add_zero] at C;rw[C,r1]
     show -1*cW (exI l lv hv lw hw)+_=_-cW (exI l lv hv lw hw)
     omega
   · obtain⟨q1,q2⟩:=U.neg zow
     obtain⟨r1,J⟩:=zBC hab hu (s:=1) zot V W m1 m2 (by rw[D];exact hd) (by rw[n1,D,q1]);obtain⟨C,O⟩:=zBC hab hu (s:=0) zot V W m3 m4 (by rw[H];grind) (by rw[n0,H];grind);refine⟨?_,O (hb _ zoq),J (hb _ zoq)⟩;rw[D,if_neg hp] at r1;rw[H,if_pos zow] at C;rw[Nat.add_zero] at C;rw[C,r1]
     show _+-1*cW (exI l lv hv lw hw)=_-cW (exI l lv hv lw hw)
     omega
variable {a b p d:Pt}
theorem yEF:∀xs:List Rat,∃M:Rat,0<M/\∀x,x∈xs-> -M<x/\x<M
  |[]=>⟨1,by decide,λx hx=>by cases hx⟩
  |y::xs=>by
   obtain⟨M,hM,h⟩:=yEF xs
   by_cases hy:0<=y
   · refine⟨M+y,by grind,λx hx=>?_⟩
     rcases List.mem_cons.1 hx with rfl|hx
     · exact⟨by grind,by grind⟩
     · have:=h x hx;exact⟨by grind,by grind⟩
   · refine⟨M-y,by grind,λx hx=>?_⟩
     rcases List.mem_cons.1 hx with rfl|hx
     · exact⟨by grind,by grind⟩
     · have:=h x hx;exact⟨by grind,by grind⟩
theorem zD6{x y:Rat}(h:y≠0):x/y*y=x:=by grind
theorem zZX{u:Nat}(hab:a.at u<b.at u)(hs:d.at u=0->sI a b p u):∃(g:Rat->Rat×Rat) (xs:List Rat),∀M,0<M->(∀x,x∈xs-> -M<x/\x<M)->Ax a b p d M u (g M).1 (g M).2:=by
 by_cases h0:d.at u=0
 · exact⟨λM=>(-M,M),[],λM C _=>zZW C h0 (hs h0)⟩
 · by_cases hp:0<d.at u
   · exact⟨λ_=>((a.at u-p.at u)/d.at u,(b.at u-p.at u)/d.at u),[(a.at u-p.at u)/d.at u,(b.at u-p.at u)/d.at u],λM C hx=>yJF hab hp (zD6 h0) (zD6 h0) ⟨hx _ zoy,hx _ zoy⟩⟩
   · exact⟨λ_=>((b.at u-p.at u)/d.at u,(a.at u-p.at u)/d.at u),[(b.at u-p.at u)/d.at u,(a.at u-p.at u)/d.at u],λM C hx=>yJG hab zow (zD6 h0) (zD6 h0) ⟨hx _ zoy,hx _ zoy⟩⟩
theorem yLF{t l2 h2 l3 h3:Rat}:exI t l2 h2 l3 h3=exI t l3 h3 l2 h2:=propext ⟨λe=>⟨e.1,e.2.2,e.2.1⟩,λe=>⟨e.1,e.2.2,e.2.1⟩⟩
theorem yLH{t l2 h2 l3 h3:Rat}:enI t l2 h2 l3 h3=enI t l3 h3 l2 h2:=propext ⟨λe=>⟨e.1,e.2.2,e.2.1⟩,λe=>⟨e.1,e.2.2,e.2.1⟩⟩
theorem yDU{t l2 h2 l3 h3:Rat}(k:iH t l2 h2 l3 h3):iH t l3 h3 l2 h2:=λe c1 c2=>⟨(k e c2 c1).2,(k e c2 c1).1⟩
theorem yJ7{d:Pt}(h:d≠zT):d.at 0≠0\/d.at 1≠0\/d.at 2≠0:=by
 by_cases h0:d.at 0=0
 · by_cases h1:d.at 1=0
   · by_cases h2:d.at 2=0
     · exact absurd (qS.2 ⟨h0,h1,h2⟩) h
     · exact .inr (.inr h2)
   · exact .inr (.inl h1)
 · exact .inl h0
theorem yC3(hab:∀i,a.at i<b.at i){v:Nat}(hv:v<3)(h0:d.at v=0)(hs:¬sI a b p v){u s:Nat}(hu:u<3)(hs2:s<2):crE (bxS a b) p d (2*u+s)=0:=by
 unfold crE
 by_cases hk:skP (bxS a b) p d (2*u+s)
 · exact if_pos hk
 · rw[if_neg hk]
   refine if_neg λe=>?_;have hw:=(yET hab hu hs2 _).2.1 e;have D:∀t,(pO p d t).at v=p.at v:=λt=>by rw[w9,h0];grind
   have C:∀t,¬sI a b (pO p d t) v:=λt h=>hs (by unfold sI at *;rw[D] at h;exact h)
   by_cases huv:u=v
   · refine hk ?_
     unfold skP;rw[aX,yIZ zoq,show(2*u+s)/2=v by omega,h0]
     split<;>grind
   · have:v=(u+1)%3\/v=(u+2)%3:=by omega
     rcases this with e1|e1
     · exact C _ (e1▸hw.1)
     · exact C _ (e1▸hw.2)
theorem zZO(hab:∀i,a.at i<b.at i)(hd:d≠zT)(hon:(∀u,u<3->kI a b p u)->∀u,u<3->sI a b p u)(hb:∀f,f<6->¬skP (bxS a b) p d f->whF (bxS a b) f (pO p d (hnF (bxS a b) p f/cnF (bxS a b) d f))≠0):
 crS (bxS a b) p d 6=cW (∀u,u<3->sI a b p u):=by
 have e6:crS (bxS a b) p d 6=(crE (bxS a b) p d (2*0)+crE (bxS a b) p d (2*0+1))+(crE (bxS a b) p d (2*1)+crE (bxS a b) p d (2*1+1))+(crE (bxS a b) p d (2*2)+crE (bxS a b) p d (2*2+1)):=by
  show 0+crE (bxS a b) p d 0+crE (bxS a b) p d 1+crE (bxS a b) p d 2+crE (bxS a b) p d 3+crE (bxS a b) p d 4+crE (bxS a b) p d 5=_
  simp only[Nat.reduceMul,Nat.reduceAdd];omega
 by_cases hall:∀u,u<3->d.at u=0->sI a b p u
 · obtain⟨g0,x0,A0⟩:=zZX (p:=p) (d:=d) (hab 0) (hall 0 zot)
   obtain⟨g1,x1,A1⟩:=zZX (p:=p) (d:=d) (hab 1) (hall 1 zot);obtain⟨g2,x2,A2⟩:=zZX (p:=p) (d:=d) (hab 2) (hall 2 zot);obtain⟨M,D,hx⟩:=yEF (x0++(x1++x2));have O:=A0 M D λx h=>hx x (by simp[h]);have J:=A1 M D λx h=>hx x (by simp[h]);have H:=A2 M D λx h=>hx x (by simp[h])
   clear A0 A1 A2 hx
   generalize (g0 M).1=l1 at *;generalize (g0 M).2=h1 at *;generalize (g1 M).1=l2 at *;generalize (g1 M).2=h2 at *;generalize (g2 M).1=l3 at *;generalize (g2 M).2=h3 at *;have nz:=yJ7 hd;obtain⟨s0,k0,m0⟩:=zGV hab D (u:=0) zot O J H (λe=>nz.elim (λk=>absurd e k) id) hb;obtain⟨s1,k1,m1⟩:=zGV hab D (u:=1) zot J H O (λe=>nz.elim (λk=>.inr k) λk=>k.elim (λk=>absurd e k) λk=>.inl k) hb;obtain⟨s2,k2,m2⟩:=zGV hab D (u:=2) zot H O J (λe=>nz.elim (λk=>.inl k) λk=>k.elim (λk=>.inr k) λk=>absurd e k) hb;rw[e6,s0,s1,s2,yLF (t:=h2),yLH (t:=l2)];have r0:∀u,(pO p d 0).at u=p.at u:=λu=>by rw[w9];grind
   have ab:-M<0:=by grind
   have C:∀{u l h},Ax a b p d M u l h->(sI a b p u↔l<0/\0<h):=λ{u l h} A=>by
    have:=A.s 0 ab D;unfold sI at *;rw[r0] at this;exact this
   have kv:∀{u l h},Ax a b p d M u l h->(kI a b p u↔l<=0/\0<=h):=λ{u l h} A=>by
    have:=A.k 0 ab D;unfold kI at *;rw[r0] at this;exact this
   have aa:=yHW O.lt J.lt H.lt k0 (yDU k1) k2 m0 (yDU m1) m2 λc0 c1 c2=>by
    have hs:=hon λu hu=>by
     have:u=0\/u=1\/u=2:=by omega
     rcases this with rfl|rfl|rfl
     · exact(kv O).2 c0
     · exact(kv J).2 c1
     · exact(kv H).2 c2
    exact⟨(C O).1 (hs 0 zot),(C J).1 (hs 1 zot),(C H).1 (hs 2 zot)⟩
   have Z:((l1<0/\0<h1)/\(l2<0/\0<h2)/\l3<0/\0<h3)=(∀u,u<3->sI a b p u):=propext ⟨λe u hu=>by
    have:u=0\/u=1\/u=2:=by omega
    rcases this with rfl|rfl|rfl
    · exact(C O).2 e.1
    · exact(C J).2 e.2.1
    · exact(C H).2 e.2.2,λe=>⟨(C O).1 (e 0 zot),(C J).1 (e 1 zot),(C H).1 (e 2 zot)⟩⟩
   rw[Z] at aa;omega
 · obtain⟨v,hv⟩:=Classical.not_forall.1 hall
   obtain⟨U,hv⟩:=Classical.not_imp.1 hv;obtain⟨h0,hs⟩:=Classical.not_imp.1 hv;have z:∀u s,u<3->s<2->crE (bxS a b) p d (2*u+s)=0:=λu s hu h2=>yC3 hab U h0 hs hu h2;rw[e6,z 0 1 zot zot,z 1 1 zot zot,z 2 1 zot zot,show crE (bxS a b) p d (2*0)=0 from z 0 0 zot zot,show crE (bxS a b) p d (2*1)=0 from z 1 0 zot zot,show crE (bxS a b) p d (2*2)=0 from z 2 0 zot zot,jZ λe=>hs (e v U)]
   rfl
def onP(s:Sd)(p:Pt)(f:Nat):Prop:=sdZ (s.2.1.getD f zA).1 p=0/\0<=whF s f p
def onB(s:Sd)(p:Pt):Prop:=∃f,f<s.2.1.length/\onP s p f
noncomputable def onI(s:Sd)(p:Pt):Nat:=if onB s p then oT λf=>f<s.2.1.length/\onP s p f else 0
noncomputable def crP(s:Sd)(p d:Pt):Nat->Int×Int
  |0=>(0,0)
  |n+1=>if skP s p d n then crP s p d n else if whF s n (pO p d (hnF s p n/cnF s d n))=1 then(if 0<cnF s d n then((crP s p d n).1+1,(crP s p d n).2) else((crP s p d n).1,(crP s p d n).2+1)) else crP s p d n
theorem zRU(s:Sd)(p d:Pt):∀n,(crP s p d n).1-(crP s p d n).2=crS s p d n
  |0=>rfl
  |n+1=>by
   have ih:=zRU s p d n;unfold crP crS crE
   split
   · omega
   · split
     · split
       · show(crP s p d n).1+1-(crP s p d n).2=_;omega
       · show(crP s p d n).1-((crP s p d n).2+1)=_;omega
     · omega
noncomputable def t6(s:Sd)(p:Pt):Int:=if onB s p then 0 else crS s p (vK (dirN s p)) s.2.1.length
noncomputable def inZ(s:Sd)(p:Pt):Int:=if onB s p then 0 else if 0<t6 s p then 1 else -1
theorem zU2(k:Int):vK k≠zT:=λe=>by
 have:=congrArg T3.x e;have e1:((1:Int):Rat)=0:=this;exact absurd e1 zot
section
variable {a b:Pt}
theorem zVL(h:a.x<b.x/\a.y<b.y/\a.z<b.z):kZ (bxS a b):=by
 have g:∀i,i<uB1.length->∀k,k<i->¬uB1.getD i u0=uB1.getD k u0:=by decide +kernel
 have C:wR (uB1.map (cU a b),fB3 a b,[])=[[[0,1,3,2]],[[4,6,7,5]],[[0,4,5,1]],[[2,3,7,6]],[[0,2,6,4]],[[1,5,7,3]]]:=I;refine zKU h (λi k hk hi=>g i hi k hk) ⟨by decide,show 6<=256 by decide⟩ (λf hf=>⟨_,(dS (a:=a) (b:=b) hf).1⟩) (λf hf=>?_) ?_ ?_
 · have D:f<6:=hf
   have:f=0\/f=1\/f=2\/f=3\/f=4\/f=5:=by omega
   rcases this with rfl|rfl|rfl|rfl|rfl|rfl
   · show vfP [[0,1,3,2]];decide +kernel
   · show vfP [[4,6,7,5]];decide +kernel
   · show vfP [[0,4,5,1]];decide +kernel
   · show vfP [[2,3,7,6]];decide +kernel
   · show vfP [[0,2,6,4]];decide +kernel
   · show vfP [[1,5,7,3]];decide +kernel
 · rw[C];decide +kernel
 · rw[C];decide +kernel
theorem zQ0(h:∀i,a.at i<b.at i)(p:Pt):onB (bxS a b) p↔(∀u,u<3->kI a b p u)/\¬∀u,u<3->sI a b p u:=by
 have hk:∀v,sI a b p v->kI a b p v:=λv e=>⟨Rat.le_of_lt e.1,Rat.le_of_lt e.2⟩;have C:∀u s,u<3->s<2->(onP (bxS a b) p (2*u+s)↔(if s=1 then b.at u=p.at u else p.at u=a.at u)/\kI a b p ((u+1)%3)/\kI a b p ((u+2)%3)):=λu s M hs=>by
  obtain⟨w0,U⟩:=yET h M hs p;have hw:0<=whF (bxS a b) (2*u+s) p↔kI a b p ((u+1)%3)/\kI a b p ((u+2)%3):=by
   constructor
   · intro e
     by_cases h0:whF (bxS a b) (2*u+s) p=0
     · exact(w0.1 h0).1
     · have h1:whF (bxS a b) (2*u+s) p=1:=by
        rw[yDG h zoq] at e h0 ⊢
        split at e
        · rename_i hc;rw[if_pos hc] at h0;exact absurd I h0
        · split at e
          · rename_i hc hc2;rw[if_neg hc,if_pos hc2]
          · exact absurd e zot
       exact⟨hk _ (U.1 h1).1,hk _ (U.1 h1).2⟩
   · intro e
     by_cases hs2:sI a b p ((u+1)%3)/\sI a b p ((u+2)%3)
     · rw[U.2 hs2];decide
     · rw[w0.2 ⟨e,hs2⟩];exact Int.le_refl 0
  unfold onP;rw[hw];have Z:sdZ ((bxS a b).2.1.getD (2*u+s) zA).1 p=0↔hnF (bxS a b) p (2*u+s)=0:=by
   unfold sdZ hgt hnF;rw[uF];constructor<;>intro e<;>grind
  rw[Z,yH6 zoq,show(2*u+s)/2=u by omega]
  by_cases e1:s=1
  · rw[if_pos zoq,if_pos e1]
    constructor
    · rintro⟨e,k⟩;exact⟨by grind,k⟩
    · rintro⟨e,k⟩;exact⟨by grind,k⟩
  · rw[if_neg zoq,if_neg e1]
    constructor
    · rintro⟨e,k⟩;exact⟨by grind,k⟩
    · rintro⟨e,k⟩;exact⟨by grind,k⟩
 have O:∀u,u<3->∀q:Nat->Prop,q u->q ((u+1)%3)->q ((u+2)%3)->∀v,v<3->q v:=λu M q h0 h1 h2 v hv=>by
  have:v=u\/v=(u+1)%3\/v=(u+2)%3:=by omega
  rcases this with rfl|rfl|rfl<;>assumption
 constructor
 · rintro⟨f,hf,ho⟩
   have ab:f<6:=hf;have e:f=2*(f/2)+f%2:=by omega
   rw[e] at ho;obtain⟨h1,h2,h3⟩:=(C (f/2) (f%2) zoq zoq).1 ho;have aa:=h (f/2);have H:kI a b p (f/2):=by
    unfold kI
    by_cases e1:f%2=1
    · rw[if_pos e1] at h1;exact⟨by grind,by grind⟩
    · rw[if_neg e1] at h1;exact⟨by grind,by grind⟩
   refine⟨O (f/2) zoq _ H h2 h3,λhs=>?_⟩;have:=hs (f/2) zoq;unfold sI at this
   by_cases e1:f%2=1
   · rw[if_pos e1] at h1;grind
   · rw[if_neg e1] at h1;grind
 · rintro⟨J,hn⟩
   obtain⟨u,M⟩:=Classical.not_forall.1 hn;obtain⟨D,M⟩:=Classical.not_imp.1 M;have H:=J u D;unfold sI at M;unfold kI at H;have k1:=J ((u+1)%3) zoq;have k2:=J ((u+2)%3) zoq
   by_cases e:p.at u=a.at u
   · exact⟨2*u+0,show 2*u+0<6 by omega,(C u 0 D zot).2 ⟨by rw[if_neg zot];exact e,k1,k2⟩⟩
   · exact⟨2*u+1,show 2*u+1<6 by omega,(C u 1 D zot).2 ⟨by rw[if_pos I];grind,k1,k2⟩⟩
theorem zQB(h:∀i,a.at i<b.at i){p:Pt}(ho:¬onB (bxS a b) p):t6 (bxS a b) p=cW (∀u,u<3->sI a b p u):=by
 have hs:=zVL (a:=a) (b:=b) ⟨h 0,h 1,h 2⟩;have hd:=iS (pS hs) p;unfold t6;rw[if_neg ho];refine zZO h (zU2 _) (λhk=>Classical.not_not.1 λe=>ho ((zQ0 h p).2 ⟨hk,e⟩)) λf hf hk=>zO9 (aW hs) hf hd.2.1 hk
theorem yLB(h:∀i,a.at i<b.at i)(p:Pt):inZ (bxS a b) p=if ∀u,u<3->sI a b p u then 1 else if ∀u,u<3->kI a b p u then 0 else -1:=by
 unfold inZ
 by_cases ho:onB (bxS a b) p
 · obtain⟨h1,h2⟩:=(zQ0 h p).1 ho
   rw[if_pos ho,if_neg h2,if_pos h1]
 · rw[if_neg ho,zQB h ho]
   by_cases hs:∀u,u<3->sI a b p u
   · rw[lE hs,if_pos zot,if_pos hs]
   · rw[jZ hs,if_neg zot,if_neg hs,if_neg λe=>ho ((zQ0 h p).2 ⟨e,hs⟩)]
end
abbrev Fm:=Pl×List (List Pt)×Int×Int
abbrev Md:=List Fm×List (List Pt)
abbrev ed0:List Pt:=List.replicate 2 zT
abbrev fm0:Fm:=(zS7,([]:List (List Pt)),(0:Int),(0:Int))
def zAA(P:List Pt)(L:List (List Int)):Nat->List (List Pt):=qG λl=>zE2 P (L.getD l []) (L.getD l []).length
noncomputable def fmF(s:Sd)(f:Fc):Fm:=(f.1,zAA s.1 f.2.1 f.2.1.length,(↑(axI f.1.1):Int),(↑(axJ f.1.1):Int))
def edP(P:List Pt)(e:PIr):List Pt:=[ptI P e.1,ptI P e.2]
noncomputable def fmT(s:Sd):Nat->List Fm:=qG λf=>fmF s (s.2.1.getD f zA)
noncomputable def tS(s:Sd):Md:=(fmT s s.2.1.length,(sfE s s.2.1.length).map (edP s.1))
noncomputable def whM(f:Fm)(p:Pt):Int:=whZ f.2.1 (pr p f.2.2.1.toNat f.2.2.2.toNat) f.2.2.1.toNat f.2.2.2.toNat
def onM(md:Md)(p:Pt)(f:Nat):Prop:=(sdZ (md.1.getD f fm0).1 p=0/\0<(md.1.getD f fm0).2.1.length)/\0<=whM (md.1.getD f fm0) p
def onA(md:Md)(p:Pt):Prop:=∃f,f<md.1.length/\onM md p f
noncomputable def onJ(md:Md)(p:Pt):Nat:=if onA md p then oT λf=>f<md.1.length/\onM md p f else 0
def cnM(f:Fm)(d:Pt):Rat:=zE f.1.1 d
def hnM(f:Fm)(p:Pt):Rat:=f.1.2-zE f.1.1 p
def skM(f:Fm)(p d:Pt):Prop:=yV (cnM f d)*yV (hnM f p)<=0\/f.2.1.length=0
noncomputable def wrM(f:Fm)(p d:Pt):Int:=whM f (pO p d (hnM f p/cnM f d))
def bdM(f:Fm)(p d:Pt):Prop:=¬skM f p d/\wrM f p d=0
noncomputable def crM(md:Md)(p d:Pt):Nat->Int×Int
  |0=>(0,0)
  |n+1=>if skM (md.1.getD n fm0) p d then crM md p d n else if wrM (md.1.getD n fm0) p d=1 then(if 0<cnM (md.1.getD n fm0) d then((crM md p d n).1+1,(crM md p d n).2) else((crM md p d n).1,(crM md p d n).2+1)) else crM md p d n
def nbM(md:Md)(p d:Pt):Prop:=∀f,f<md.1.length->¬bdM (md.1.getD f fm0) p d
def clM(md:Md)(p v:Pt):Prop:=∀q,q<md.2.length->¬lI p ((md.2.getD q ed0).getD 0 zT) ((md.2.getD q ed0).getD 1 zT) v
noncomputable def cG(md:Md)(p:Pt):Nat:=oT λk=>clM md p (vK k)
def yIE(f:Fm):Prop:=(0<=f.2.2.1/\f.2.2.1<3)/\(0<=f.2.2.2/\f.2.2.2<3)/\f.2.1.length<=1000/\∀x,x∈f.2.1->x.length<=1000
def zTY(md:Md):Prop:=md.1.length<=1000/\md.2.length<=2000000/\∀f,f<md.1.length->yIE (md.1.getD f fm0)
theorem zTC{md:Md}{p:Pt}{f:Nat}(hf:f<md.1.length)(h:onM md p f)(hl:∀u,u<f->¬onM md p u):onJ md p=f/\onA md p:=by
 have C:onA md p:=⟨f,hf,h⟩;obtain⟨h1,h2,h3⟩:=j6 (q:=λf=>f<md.1.length/\onM md p f) ⟨hf,h⟩;refine⟨?_,C⟩;unfold onJ;rw[if_pos C]
 rcases Nat.lt_or_ge (oT λf=>f<md.1.length/\onM md p f) f with h4|h4
 · exact absurd h2.2 (hl _ h4)
 · omega
theorem zW3{md:Md}{p:Pt}(h:∀f,f<md.1.length->¬onM md p f):onJ md p=0/\¬onA md p:=by
 have C:¬onA md p:=λ⟨f,hf,e⟩=>h f hf e;exact⟨if_neg C,C⟩
theorem yBA{q:Rat}:yV q=0↔q=0:=by
 refine⟨λe=>?_,aM⟩;rw[rK] at e
 split at e
 · assumption
 · split at e<;>exact absurd e zot
abbrev Ac:=Pt×Pt×Prop
def zF9(x:Ac)(d:Pt):Prop:=if x.2.2 then zY x.2.1 d=zT else zE x.1 d=0
noncomputable def acF(p:Pt)(e:List Pt):Ac:=(zY (yO (e.getD 0 zT) p) (yO (e.getD 1 zT) p),if zY (yO (e.getD 0 zT) p) (yO (e.getD 1 zT) p)=zT then yO (e.getD 1 zT) (e.getD 0 zT) else zT,zY (yO (e.getD 0 zT) p) (yO (e.getD 1 zT) p)=zT)
noncomputable def acT(p:Pt)(E:List (List Pt)):Nat->List Ac:=qG λq=>acF p (E.getD q ed0)
theorem yCZ(a b d:Pt):zE (zY a b) d=yB a b d:=by
 unfold yB zE zY;grind
theorem zYQ(p d:Pt)(e:List Pt):zF9 (acF p e) d↔lI p (e.getD 0 zT) (e.getD 1 zT) d:=by
 unfold zF9 lI acF
 by_cases h:zY (yO (e.getD 0 zT) p) (yO (e.getD 1 zT) p)=zT
 · simp only[h,if_true]
 · simp only[h,if_false]
   rw[show zE (zY (yO (e.getD 0 zT) p) (yO (e.getD 1 zT) p)) d=yB (yO (e.getD 0 zT) p) (yO (e.getD 1 zT) p) d from yCZ _ _ _]
noncomputable def crA(md:Md)(p d:Pt):Int:=if nbM md p d then(crM md p d md.1.length).1 else 0
noncomputable def crB(md:Md)(p d:Pt):Int:=if nbM md p d then(crM md p d md.1.length).2 else 0
theorem zCQ(md:Md)(p d:Pt):∀n:Nat,(0<=(crM md p d n).1/\(crM md p d n).1<=n)/\(0<=(crM md p d n).2/\(crM md p d n).2<=n)
  |0=>by
   show(0<=(0:Int)/\(0:Int)<=((0:Nat):Int))/\(0<=(0:Int)/\(0:Int)<=((0:Nat):Int))
   omega
  |n+1=>by
   have ih:=zCQ md p d n;unfold crM
   split
   · omega
   · split
     · split
       · show(0<=(crM md p d n).1+1/\(crM md p d n).1+1<=_)/\(0<=(crM md p d n).2/\(crM md p d n).2<=_)
         omega
       · show(0<=(crM md p d n).1/\(crM md p d n).1<=_)/\(0<=(crM md p d n).2+1/\(crM md p d n).2+1<=_)
         omega
     · omega
section
variable {md:Md}{p d:Pt}{f:Nat}
theorem zNB(h:skM (md.1.getD f fm0) p d):crM md p d (f+1)=crM md p d f:=if_pos h
theorem yC4(h:¬skM (md.1.getD f fm0) p d)(h1:wrM (md.1.getD f fm0) p d=1)(h2:0<cnM (md.1.getD f fm0) d):crM md p d (f+1)=((crM md p d f).1+1,(crM md p d f).2):=(if_neg h).trans ((if_pos h1).trans (if_pos h2))
theorem yIX(h:¬skM (md.1.getD f fm0) p d)(h1:wrM (md.1.getD f fm0) p d=1)(h2:¬0<cnM (md.1.getD f fm0) d):crM md p d (f+1)=((crM md p d f).1,(crM md p d f).2+1):=(if_neg h).trans ((if_pos h1).trans (if_neg h2))
theorem yIW(h:¬skM (md.1.getD f fm0) p d)(h1:¬wrM (md.1.getD f fm0) p d=1):crM md p d (f+1)=crM md p d f:=(if_neg h).trans (if_neg h1)
theorem yC5(hf:f<md.1.length)(h:bdM (md.1.getD f fm0) p d):crA md p d=0/\crB md p d=0/\¬nbM md p d:=by
 have C:¬nbM md p d:=λe=>e f hf h;exact⟨if_neg C,if_neg C,C⟩
theorem yIY(h:∀f,f<md.1.length->¬bdM (md.1.getD f fm0) p d):crA md p d=(crM md p d md.1.length).1/\crB md p d=(crM md p d md.1.length).2/\nbM md p d:=⟨if_pos h,if_pos h,h⟩
end
theorem ac_t{p:Pt}{E:List (List Pt)}{q:Nat}{D:List Ac}(hD:D=acT p E q)(h:zY (yO ((E.getD q ed0).getD 0 zT) p) (yO ((E.getD q ed0).getD 1 zT) p)=zT):D++[(zY (yO ((E.getD q ed0).getD 0 zT) p) (yO ((E.getD q ed0).getD 1 zT) p),(yO ((E.getD q ed0).getD 1 zT) ((E.getD q ed0).getD 0 zT),zY (yO ((E.getD q ed0).getD 0 zT) p) (yO ((E.getD q ed0).getD 1 zT) p)=zT))]=acT p E (q+1):=by
 rw[hD]
 show _=acT p E q++[acF p (E.getD q ed0)]
 unfold acF;rw[if_pos h]
theorem ac_f{p:Pt}{E:List (List Pt)}{q:Nat}{D:List Ac}(hD:D=acT p E q)(h:¬zY (yO ((E.getD q ed0).getD 0 zT) p) (yO ((E.getD q ed0).getD 1 zT) p)=zT):D++[(zY (yO ((E.getD q ed0).getD 0 zT) p) (yO ((E.getD q ed0).getD 1 zT) p),(zT,zY (yO ((E.getD q ed0).getD 0 zT) p) (yO ((E.getD q ed0).getD 1 zT) p)=zT))]=acT p E (q+1):=by
 rw[hD]
 show _=acT p E q++[acF p (E.getD q ed0)]
 unfold acF;rw[if_neg h]
abbrev ac0:Ac:=(zT,(zT,False))
theorem yAA{p v:Pt}{md:Md}{u:Nat}(hu:u<md.2.length):zF9 ((acT p md.2 md.2.length).getD u ac0) v↔lI p ((md.2.getD u ed0).getD 0 zT) ((md.2.getD u ed0).getD 1 zT) v:=by
 rw[show(acT p md.2 md.2.length).getD u ac0=acF p (md.2.getD u ed0) from qY _ ac0 hu];exact zYQ p v _
theorem zM7{p:Pt}{md:Md}{D:List Ac}{u kk:Nat}(hD:D=acT p md.2 md.2.length)(hc:clM md p (vK ↑(cG md p)))(hk:kk<=cG md p)(hu:u<D.length)(h:zF9 (D.getD u ac0) (vK ↑kk)):kk+1<=cG md p:=by
 have C:D.length=md.2.length:=by rw[hD];exact xK _ _
 rcases Nat.lt_or_ge kk (cG md p) with h1|h1
 · exact h1
 · have e:kk=cG md p:=by omega
   rw[e,hD] at h;exact absurd ((yAA zoq).1 h) (hc u zoq)
theorem yCY{p:Pt}{md:Md}{D:List Ac}{kk:Nat}(hD:D=acT p md.2 md.2.length)(hk:kk<=cG md p)(h:∀v,v<D.length->¬zF9 (D.getD v ac0) (vK ↑kk)):kk=cG md p:=by
 have H:D.length=md.2.length:=by rw[hD];exact xK _ _
 have hc:clM md p (vK ↑kk):=λq C e=>by
  refine h q zoq ?_;rw[hD];exact(yAA C).2 e
 have h1:cG md p<=kk:=(j6 (q:=λk=>clM md p (vK k)) hc).1;omega
theorem zIP(md:Md)(p d:Pt):(0<=crA md p d/\crA md p d<=md.1.length)/\(0<=crB md p d/\crB md p d<=md.1.length):=by
 have h:=zCQ md p d md.1.length;unfold crA crB
 split
 · exact h
 · omega
noncomputable def wdM(md:Md)(p:Pt):Int:=if onA md p then 0 else crA md p (vK ↑(cG md p))-crB md p (vK ↑(cG md p))
theorem zKK{s:Sd}{f:Nat}(hf:f<s.2.1.length):(tS s).1.getD f fm0=fmF s (s.2.1.getD f zA):=qY _ fm0 hf
theorem zFY(s:Sd):(tS s).1.length=s.2.1.length:=xK _ _
theorem yA7{s:Sd}{f:Nat}(hf:f<s.2.1.length)(hn:nmP s f):xE s f=zAA s.1 (s.2.1.getD f zA).2.1 (s.2.1.getD f zA).2.1.length:=by
 unfold xE;rw[if_pos ⟨⟨by omega,by omega⟩,by simpa using hn⟩]
 rfl
theorem zQE{s:Sd}{f:Nat}(hf:f<s.2.1.length)(hn:nmP s f)(p:Pt):whM (fmF s (s.2.1.getD f zA)) p=whF s f p:=by
 rw[zBA,yA7 hf hn];unfold whM fmF;simp only[Int.toNat_natCast]
theorem zIC{s:Sd}(h:kZ s){f:Nat}(hf:f<s.2.1.length):0<(s.2.1.getD f zA).2.1.length:=(w5 h hf).1.1.1
theorem zQZ{s:Sd}(h:kZ s)(p:Pt){f:Nat}(hf:f<s.2.1.length):onM (tS s) p f↔onP s p f:=by
 unfold onM onP;rw[zKK hf,zQE hf (w5 h hf).2];have h1:0<(fmF s (s.2.1.getD f zA)).2.1.length:=by
  show 0<(zAA _ _ _).length
  rw[show(zAA s.1 (s.2.1.getD f zA).2.1 (s.2.1.getD f zA).2.1.length).length=_ from xK _ _];exact zIC h hf
 exact⟨λe=>⟨e.1.1,e.2⟩,λe=>⟨⟨e.1,h1⟩,e.2⟩⟩
theorem mO{s:Sd}(h:kZ s)(p:Pt):onA (tS s) p↔onB s p:=by
 unfold onA onB;rw[zFY];exact⟨λ⟨f,hf,e⟩=>⟨f,hf,(zQZ h p hf).1 e⟩,λ⟨f,hf,e⟩=>⟨f,hf,(zQZ h p hf).2 e⟩⟩
theorem zI6{s:Sd}(h:kZ s)(p d:Pt){f:Nat}(hf:f<s.2.1.length):skM (fmF s (s.2.1.getD f zA)) p d↔skP s p d f:=by
 have h1:(fmF s (s.2.1.getD f zA)).2.1.length≠0:=by
  show(zAA _ _ _).length≠0
  rw[show(zAA s.1 (s.2.1.getD f zA).2.1 (s.2.1.getD f zA).2.1.length).length=_ from xK _ _];have:=zIC h hf;omega
 exact⟨λe=>e.resolve_right h1,λe=>.inl e⟩
theorem zP9{s:Sd}(h:kZ s)(p d:Pt){f:Nat}(hf:f<s.2.1.length):wrM (fmF s (s.2.1.getD f zA)) p d=whF s f (pO p d (hnF s p f/cnF s d f)):=zQE hf (w5 h hf).2 _
theorem zRT{s:Sd}(h:kZ s)(p d:Pt):∀n,n<=s.2.1.length->crM (tS s) p d n=crP s p d n
  |0,_=>rfl
  |n+1,hn=>by
   unfold crM crP;rw[zKK zoq,zRT h p d n zoq,zP9 h p d zoq]
   by_cases e:skP s p d n
   · rw[if_pos e,if_pos ((zI6 h p d zoq).2 e)]
   · rw[if_neg e,if_neg λe'=>e ((zI6 h p d zoq).1 e')]
     rfl
theorem zY7(P:List Pt)(S:List PIr){q:Nat}(hq:q<S.length):(S.map (edP P)).getD q ed0=edP P S[q]:=by
 rw[zoa,List.getElem?_map,zoc hq]
 rfl
theorem zRZ{s:Sd}(h:kZ s)(p v:Pt):clM (tS s) p v↔zGQ s p v:=by
 rw[zKR (pS h)];unfold clM tS;simp only[List.length_map];constructor
 · intro e x hx
   obtain⟨q,C,rfl⟩:=List.mem_iff_getElem.1 hx;have:=e q C;rw[zY7 _ _ C] at this;exact this
 · intro e q C
   have:=e _ (List.getElem_mem C);rw[zY7 _ _ C];exact this
theorem zM8{s:Sd}(h:kZ s)(p:Pt):cG (tS s) p=dirN s p:=by
 unfold cG dirN
 congr 1
 funext k
 exact propext (zRZ h p _)
theorem yB0{s:Sd}(h:kZ s){p d:Pt}(hc:zGQ s p d):nbM (tS s) p d:=by
 intro f hf e;rw[zFY] at hf;rw[zKK hf] at e;have hk:¬skP s p d f:=λe'=>e.1 ((zI6 h p d hf).2 e');have h0:=e.2;rw[zP9 h p d hf] at h0;exact zO9 (aW h) hf hc hk h0
theorem zQF{s:Sd}(h:kZ s)(p:Pt):wdM (tS s) p=t6 s p:=by
 unfold wdM t6;rw[zM8 h]
 by_cases ho:onB s p
 · rw[if_pos ho,if_pos ((mO h p).2 ho)]
 · rw[if_neg ho,if_neg λe=>ho ((mO h p).1 e)]
   have C:=yB0 h (iS (pS h) p).2.1;unfold crA crB;rw[if_pos C,if_pos C,zFY,zRT h _ _ _ (Nat.le_refl _)];exact zRU s p _ _
end Bk
