/- Texts that the proof needs, part 7. -/
import Derived.Test.YtpkaegemlpaenaaGreatK6
set_option linter.unusedVariables false
set_option linter.unusedSimpArgs false
namespace Go.Proofs.YtpkaegemlpaenaaGreat
open Bk Go Tryz
set_option maxRecDepth 10000
set_option maxHeartbeats 1000000
attribute [local irreducible] GL GC GQ W OpV
theorem vJ{w0:World}{h0:Mem}(hs:MLe h0 (mem w0)){n:Int}(hn1:-9223372036854775808<=n)(hn2:n<9223372036854775808):
 Calls Tryz.prog 88 #[vI n] w0 (Ret w0 h0 (λh r=>kR.Is h r (qK ((n:Int):Rat)))):=by
 refine cb1 6 (vI n) func88 hs ?_;refine zP (zF (asg I I (zX (zH (zP (zF (mv I I (cL (ev1 I) call27 (λw hs=>rU hs oM oM) λv4 h1 ab r4=>?_))))))));obtain⟨M,O,C,D,H,J⟩:=qM r4;subst C;refine cL (ev1 I) call134 (λw hs=>zSW hs D H oM) λv5 h2 aa U=>?_;subst U;have Z:=s5 ((n:Int):Rat);refine asg I I (zX (zH (lJ (zC I I ?_))));exact(cZ (zZL ((n:Int):Rat)))
set_option maxHeartbeats 1000000 in
theorem zTO{w0:World}{h0:Mem}(hs:MLe h0 (mem w0)){k l1 l2:Nat}{vL:Value}{L:(List (List Tq))}(rL:(tLL k).Is h0 vL L){vlo:Value}{lo:Rat}(rlo:(rpQ l1).Is h0 vlo lo){vhi:Value}{hi:Rat}(rhi:(rpQ l2).Is h0 vhi hi)(hcd0:k<=20)(hcd1:l1<=20)(hcd2:l2<=20)(hcd3:∀x,x∈L->aD x)(hcd4:prE L lo hi=0->okS (prR L lo hi)):
 Calls Tryz.prog 46 #[vL,vlo,vhi] w0 (tP w0 h0 (λh r L_=>∃u0 vF cs,r=.tuple #[u0,vI (prE L lo hi)]/\(rpP (tLs (k+l1+l2+20)) (rpP rpV (rpS (rpP rpI (rpP rpI (rpQ 5)))))).Is h u0 (prP L lo hi,(vF,[]))/\L_=[.gs 53 14 vF (prF L lo hi).length cs]/\vF.oneCell'=true/\RL (tFc (1000*k+1000*l1+1000*l2+2000) (1000*k+1000*l1+1000*l2+2000)) h cs (prF L lo hi))):=by
 refine cb3 341 vL vlo vhi func46 hs ?_;refine zP (zF (nB rlo λb4 eb dd=>(nB rhi λb5 ea dc=>(nA (ρ:=(rpP (tLs 1) (rpP rpV (rpS (rpP rpI (rpP rpI (rpQ 1))))))) (X:=([],((Value.slice none 0 0),[]))) gB (yF vC (yF rO vC)) λb6 dz bj=>(asg (v:=vI (0)) I I (zX (zH (zP (zP (zF (mv I I (cL (ev1 I) call85 (λw hs=>zH0 hs rL oM (by first|omega|exact hcd3)) λv36 h1 dw th=>?_))))))))))));obtain⟨js,rfl,lz⟩:=th
 change (rpS rpI).Is h1 js (sD L 0 1) at lz
 refine mv I I (gv (gP (vs:=[_,_]) I I) I (gv (gP (vs:=[_,_]) I I) I (asg I I (asg I I (zX (zH (zP (zF (mv I I (gv (mI (q:=0) I I) I (zX (vM (e':=[(0,_),(4,_),(5,_),(6,_),(9,_),(40,_)]) e6z (zH ?_)))))))))))));refine cnd (λgn=>?_) λgn=>?_
 ·
  refine zP (zF (lX (xV (ρ:=(rpP (tLs 1) (rpP rpV (rpS (rpP rpI (rpP rpI (rpQ 1))))))) (wE (ps':=[]) underlying39 gB I I (pV underlying39) trivial I (yF vC (yF rO vC)) zR)) λv41 tg=>(mv I I ?_)));replace bj:=bj.mono dw;refine yI (A:=[]) (uB sizeOf39 pH bj tg) λzm oh=>(asg I I (zX (zH (lJ (nK ?_)))));obtain⟨e1,e2,e3⟩:=pr_1 (lo:=lo) (hi:=hi) gn;rw[e1,e2,e3];refine aR 53 14 ?_;have oe:=RL.nil (ρ:=rpP (tPl (1000*k+1000*l1+1000*l2+2000) (1000*k+1000*l1+1000*l2+2000)) (rpP tII kR)) (h:=h1);refine uJ (fV (t:=6) gV mh1 I oh) ?_;intro zr mc oc;refine gR (.cons_cons _ (List.nil_sublist _)) (λE S=>jN I mc (tM I) E S) ?_;exact⟨_,_,_,I,(Rp.Is.le oc (Le.p (Le.s (Le.t (Le.q (l:=k+l1+l2+20) oM))) (Le.p (Le.refl _) (Le.s (Le.p (Le.refl _) (Le.p (Le.refl _) (Le.q (l:=5) dC))))))),I,I,oe⟩
 refine uZ (zH (zP (zP (zF (mv I I ?_)))));have gh:vW L 0 1=0:=Classical.not_not.1 gn;have du:=yBZ gh;have mn:=yD5 du.2;replace rL:=rL.mono dw;refine cL (ev1 I) call86 (λw hs=>zH2 hs rL oM (by first|omega|exactλl hl=>Nat.le_trans (du.2 l hl) dC) (by first|omega|exactλl hl=>Nat.le_trans (du.2 l hl) dC)) λsj h2 el tf=>?_;obtain rfl:sj=vI (ouZ L):=tf;have to:=zAL L L.length;refine gv (mI (q:=1) I I) I (zX (zH ?_));refine cnd (λdy=>?_) λdy=>?_
 ·
  refine zP (zF (lX (xV (ρ:=(rpP (tLs 1) (rpP rpV (rpS (rpP rpI (rpP rpI (rpQ 1))))))) (wE (ps':=[]) underlying39 gB I I (pV underlying39) trivial I (yF vC (yF rO vC)) zR)) λv46 te=>?_));replace bj:=bj.mono (dw.trans el);refine yI (A:=[]) (uB sizeOf39 pH bj te) λzl og=>(asg (v:=vI (33)) I I (zX (zH (lJ (nK ?_)))));obtain⟨e1,e2,e3⟩:=yKT (lo:=lo) (hi:=hi) gh dy;rw[e1,e2,e3];refine aR 53 14 ?_;have od:=RL.nil (ρ:=rpP (tPl (1000*k+1000*l1+1000*l2+2000) (1000*k+1000*l1+1000*l2+2000)) (rpP tII kR)) (h:=h2);refine uJ (fV (t:=6) gV mh1 I og) ?_;intro vk ja kh;refine gR (.cons_cons _ (List.nil_sublist _)) (λE S=>jN I ja (tM I) E S) ?_;exact⟨_,_,_,I,(Rp.Is.le kh (Le.p (Le.s (Le.t (Le.q (l:=k+l1+l2+20) oM))) (Le.p (Le.refl _) (Le.s (Le.p (Le.refl _) (Le.p (Le.refl _) (Le.q (l:=5) dC))))))),I,I,od⟩
 refine uZ (zH (zP (zP (zF ?_))));replace dd:=dd.mono (dw.trans el);refine lX (xB yD pH dd) λv47 td=>?_;replace dc:=dc.mono (dw.trans el);refine lX (xB yD pH dc) λv48 tc=>(cL (ev2 I I) call17 (λw hs=>fZ hs td tc oM) λsi h3 dv tb=>?_);obtain rfl:si=vI (xS lo hi):=tb;have ui:=qV lo hi;refine gv (sZ (q:=0) I I) I (zX (zH ?_));refine cnd (λfd=>?_) λfd=>?_
 ·
  refine zKI (e':=[(6,_)]) ⟨I,trivial⟩ (zP (zF (lX (xV (ρ:=(rpP (tLs 1) (rpP rpV (rpS (rpP rpI (rpP rpI (rpQ 1))))))) (wE (ps':=[]) underlying39 gB I I (pV underlying39) trivial I (yF vC (yF rO vC)) zR)) λv51 ta=>?_)));replace bj:=bj.mono ((dw.trans el).trans dv);refine yI (A:=[]) (uB sizeOf39 pH bj ta) λux ly=>(asg (v:=vI (9)) I I (zX (zH (lJ (nK ?_)))));obtain⟨e1,e2,e3⟩:=pr_9 gh (Classical.not_not.1 dy) fd;rw[e1,e2,e3];refine aR 53 14 ?_;have kv:=RL.nil (ρ:=rpP (tPl (1000*k+1000*l1+1000*l2+2000) (1000*k+1000*l1+1000*l2+2000)) (rpP tII kR)) (h:=h3);refine uJ (fV (t:=6) gV mh1 I ly) ?_;intro vj iz kg;refine gR (.cons_cons _ (List.nil_sublist _)) (λE S=>jN I iz (tM I) E S) ?_;exact⟨_,_,_,I,(Rp.Is.le kg (Le.p (Le.s (Le.t (Le.q (l:=k+l1+l2+20) oM))) (Le.p (Le.refl _) (Le.s (Le.p (Le.refl _) (Le.p (Le.refl _) (Le.q (l:=5) dC))))))),I,I,kv⟩
 refine uZ (zH (zP (zF (nA (ρ:=(rpP rpV (rpP rpV (rpS (rpP rpI (rpP rpI (rpQ 1))))))) (X:=((Value.slice none 0 0),((Value.slice none 0 0),[]))) gB (yF rO (yF rO vC)) λab ec oq=>(zX (zH (zP (zF (asg I I (zX (zH (zP (zF ?_)))))))))))));refine asg I I (zX (zH (zP (zF (asg I I (zX (zH (zP (zP (zF (asg (v:=vI (0)) I I (zX (zH ?_)))))))))))));refine vN (xM 118 2 ?_);have ku:=RL.nil (ρ:=rpA 2 rpI) (h:=h3);refine xM 31 9 ?_;have ks:=RL.nil (ρ:=rpT (rpQ (k+1))) (h:=h3);refine xM 22 1 ?_;have kr:=RL.nil (ρ:=rpS rpI) (h:=h3);refine gcL (ι:=Nat×List (List Int)×List Tq×List (List Int)×Value×List Value×Value×List Value×Value×List Value×Mem) (λ(i,ED,M,II,ae,av,D,bd,C,ax,ma)=>(MLe h3 ma/\(RL (rpA 2 rpI) ma av ED/\RL (tPt (k+1)) ma bd M/\RL (rpS rpI) ma ax II/\i<=L.length/\ED.length=zBG L i/\M=ptB L i/\II=ptN L i),[(0,vL),(4,vP b4 0),(5,vP b5 0),(6,vP b6 0),(10,vP ab 0),(11,ae),(12,D),(13,C),(14,vI ↑i)],[.gs 22 1 C II.length ax,.gs 31 9 D M.length bd,.gs 118 2 ae ED.length av,.var ab 39 ec,.var b6 39 dz,.var b5 29 ea,.var b4 29 eb],ma,L.length-i)) (0,[],[],[],(.slice none 0 0),[],(.slice none 0 0),[],(.slice none 0 0),[],h3) ?_ ?_
 · exact⟨mle,ku,ks,kr,by omega,I,I,I⟩
 rintro⟨i,ED,M,II,ae,av,D,bd,C,ax,ma⟩ ⟨cg,ko,ak,ad,uf,rv,bk,ci⟩
 refine xC ?_;have uj:=zQT L i;have rp:=mn i uf;have hIl:II.length=i:=by rw[ci];exact xK _ _
 rw[<-bk] at uj;refine zP (zP (zF (mv I I (mv I I ?_))));replace rL:=rL.mono ((el.trans dv).trans cg);refine gv (qH underlying76 I rL) I (gv (yJ I I) I (zX (zH ?_)));refine cnd (λru=>?_) λru=>?_
 ·
  refine uZ (zH (zP (vN (zP (zF (asg I I (zX (zH (zP (zP (zF (asg (v:=vI (0)) I I (zX ?_)))))))))))));refine zH (vN (xM 3 1 ?_));have kn:=RL.nil (ρ:=rpI) (h:=ma);refine gcL (ι:=Nat×List Tq×List Int×Value×List Value×Value×List Value×Mem) (λ(q,B2,LN,O,bl,be,dl,mb)=>(MLe ma mb/\(RL (tPt (k+1)) mb bl B2/\RL rpI mb dl LN/\q<=(L.getD i []).length/\B2=plB (ptB L i) (L.getD i []) q/\LN=plN (ptB L i) (L.getD i []) q),[(0,vL),(4,vP b4 0),(5,vP b5 0),(6,vP b6 0),(10,vP ab 0),(11,ae),(12,O),(13,C),(14,vI ↑i),(15,be),(16,vI ↑q)],[.gs 3 1 be LN.length dl,.gs 22 1 C II.length ax,.gs 31 9 O B2.length bl,.gs 118 2 ae ED.length av,.var ab 39 ec,.var b6 39 dz,.var b5 29 ea,.var b4 29 eb],mb,(L.getD i []).length-q)) (0,M,[],D,bd,(.slice none 0 0),[],ma) ?_ ?_
  · exact⟨mle,ak,kn,by omega,by rw[bk];rfl,I⟩
  rintro⟨q,B2,LN,O,bl,be,dl,mb⟩ ⟨jp,aj,bh,hq1,fg,jf⟩
  refine xC ?_;have uk:=zJD (ptB L i) (L.getD i []) q;rw[<-fg,<-bk] at uk;have ul:LN.length=q:=by rw[jf];exact xK _ _
  have ix:=du.2 i oM;refine zP (zP (zF (mv I I (mv I I (mv I I ?_)))));replace rL:=rL.mono jp;refine lX (xI [] i underlying76 uN rL) λv61 sy=>(lX (xA uN sy) λv62 sx=>(gv (qH underlying35 I sx) I (gv (yJ I I) I (zX (zH ?_)))));refine cnd (λrt=>?_) λrt=>?_
  ·
   refine uZ (zH (zP (vN (zP (zF (asg (v:=vI (-1)) I I (zX (zH (zP (zP (zF (asg (v:=vI (0)) I I (zX ?_)))))))))))));refine zH (vN ?_);refine gcL (ι:=Nat×Mem) (λ(j,mj)=>(MLe mb mj/\(j<=B2.length),[(0,vL),(4,vP b4 0),(5,vP b5 0),(6,vP b6 0),(10,vP ab 0),(11,ae),(12,O),(13,C),(14,vI ↑i),(15,be),(16,vI ↑q),(17,vI (zBB B2 ((L.getD i []).getD q zT) j)),(18,vI ↑j)],[.gs 3 1 be LN.length dl,.gs 22 1 C II.length ax,.gs 31 9 O B2.length bl,.gs 118 2 ae ED.length av,.var ab 39 ec,.var b6 39 dz,.var b5 29 ea,.var b4 29 eb],mj,B2.length-j)) (0,mb) ?_ ?_
   · exact⟨mle,oM⟩
   rintro⟨j,mj⟩ ⟨cq,ro⟩
   refine xC ?_;have hj1:=ro;have hfr:=zGF B2 ((L.getD i []).getD q zT) j;refine zP (zP (zF (mv I I (mv I I (gv (kL mh2 underlying35 I) I (gv (yJ I I) I (zX (zH ?_))))))));refine cnd (λrs=>?_) λrs=>?_
   ·
    refine uZ (zH (zP (vN (zP ?_))));refine zJ 30 _ [] [(0,.q),(1,.q),(2,.q),(3,.q),(4,.q),(5,.q),(6,.q),(7,.q),(8,.q),(9,.q),(10,.q),(11,.q),(12,.q),(13,.c),(14,.q),(15,.q),(16,.q),(17,.q),(18,.q),(19,.q),(20,.q),(21,.q),(22,.q),(23,.q),(24,.q),(25,.q),(26,.q),(27,.q),(28,.c),(29,.q)] yA nX (wP zor) nX (λr hr=>hr) (qL I I I (qL I I I (w_q I (λh' L' hh hR=>(xN j (hR _ mh2) underlying35 sizeOf31 I I I bO nP).cv (show _=zM 1 O ((j*9+0)) from congrArg (zM 1 O) zo0)) I ?_)));replace aj:=aj.mono cq;refine w_q I (λh' L' hh hR=>(sM (sz:=3) (q:=0) 0 (Pc.arr (Pc.here _) zT j bO) I nP (aj.mono hh) (hR _ mh2) underlying31 sizeOf29 I I I dC).cv (show _=zM 1 O ((j*9+0)) from congrArg (zM 1 O) (by show(j*9+0)+0*3=(j*9+0);omega))) I (bH (F:=λv_=>(rpQ (k+1)).Is mj v_ ((B2.getD j zT).x)) I (wZ yD (Pc.arr (Pc.tx (Pc.here _)) zT j bO) I nP I aj I) (sS mh2) I ?_);intro v77 sw;refine qL I I I (qL I I I ?_);replace rL:=rL.mono cq;refine wX I (xI [] i underlying76 uN rL) λv80 sv=>(wX I (xA uN sv) λv81 su=>(qL I I I (wX I (xI zT q underlying35 zL su) λzz ss=>(bH (F:=λv_=>AtP (rpQ k) mj v_ (((L.getD i []).getD q zT).x)) I (zHW (q:=0) 0 underlying31 sizeOf29 (Pc.tx (Pc.here _)) I I I ss I dC I) oO I ?_))));intro zy sr;refine wX I (xA yD sr) λzx sq=>?_;refine w_c I (sC (ev2 I I) call73 (λw hs=>tX hs sw sq oM) λsf h4 ar sp=>?_);obtain rfl:sf=vB (((B2.getD j zT).x)=(((L.getD i []).getD q zT).x)):=sp;refine qL I I I ?_;refine jT (((B2.getD j zT).x)=(((L.getD i []).getD q zT).x)) (λem=>?_) (λem=>?_)
    ·
     rw[xT em];refine yS I I I (λh' L' hh hR=>yY I) I (yS I I I (λh' L' hh hR=>yY I) I (yS I I I (λh' L' hh hR=>(xN j (hR _ mh2) underlying35 sizeOf31 I I I bO nP).cv (show _=zM 1 O ((j*9+0)) from congrArg (zM 1 O) zo0)) I ?_));replace aj:=aj.mono ar;refine yS I I I (λh' L' hh hR=>(sM (sz:=3) (q:=1) 1 (Pc.arr (Pc.here _) zT j bO) I nP (aj.mono hh) (hR _ mh2) underlying31 sizeOf29 I I I dC).cv (show _=zM 1 O ((j*9+3)) from congrArg (zM 1 O) (by show(j*9+0)+1*3=(j*9+3);omega))) I (lY (F:=λv_=>(rpQ (k+1)).Is h4 v_ ((B2.getD j zT).y)) I I I (wZ yD (Pc.arr (Pc.ty (Pc.here _)) zT j bO) I nP I aj I) (sS mh2) I ?_);intro zw so;refine yS I I I (λh' L' hh hR=>yY I) I (yS I I I (λh' L' hh hR=>yY I) I ?_);replace rL:=rL.mono ar;refine oX I (xI [] i underlying76 uN rL) λzv sn=>(oX I (xA uN sn) λzu sm=>(yS I I I (λh' L' hh hR=>yY I) I (oX I (xI zT q underlying35 zL sm) λzt sl=>(lY (F:=λv_=>AtP (rpQ k) h4 v_ (((L.getD i []).getD q zT).y)) I I I (zHW (q:=1) 1 underlying31 sizeOf29 (Pc.ty (Pc.here _)) I I I sl I dC I) oO I ?_))));intro zs sk;refine oX I (xA yD sk) λyq rf=>?_;refine w_c I (zBX I I (sC (ev2 I I) call73 (λw hs=>tX hs so rf oM) λob h5 cn re=>?_));obtain rfl:ob=vB (((B2.getD j zT).y)=(((L.getD i []).getD q zT).y)):=re;refine wC I (λ_ _=>cT I I) I (cM (vM (e':=[(0,_),(4,_),(5,_),(6,_),(10,_),(11,_),(12,_),(13,_),(14,_),(15,_),(16,_),(17,_),(18,_),(102,_)]) ⟨I,I,I,I,I,I,I,I,I,I,I,I,I,I,trivial⟩ (zH ?_)));refine cnd (λep=>?_) λep=>?_
     ·
      refine zF (mv I I (asg I I (zX (rB (zH (zF (mv I I (gv (zQ (q:=1) I I oM oM) I (asg I I (zX ?_))))))))));refine gqL ((j+1),h5) ?_ ?_ (he:=⟨I,I,I,I,I,I,I,I,I,I,I,congrArg (λz=>some (vI z)) (fd_t ⟨by assumption,ep⟩),I,trivial⟩)
      · exact⟨mle,oM⟩
      omega
     refine uZ (rB (zH (zF (mv I I (gv (zQ (q:=1) I I oM oM) I (asg I I (zX ?_)))))));refine gqL ((j+1),h5) ?_ ?_ (he:=⟨I,I,I,I,I,I,I,I,I,I,I,congrArg (λz=>some (vI z)) (yII (λe=>ep e.2)),I,trivial⟩)
     · exact⟨mle,oM⟩
     omega
    rw[yM em];refine vQ I I I I I (vQ I I I I I (vQ I I I I I (vQ I I I I I (vQ I I I I I (vQ I I I I I (vQ I I I I I (vQ I I I I I (vQ I I I I I (vQ I I I I I (vQ I I I I I (vQ I I I I I (vQ I I I I I ?_))))))))))));refine w_c I (mD I I I I (wC I (λ_ _=>cV I I) I (cM (vM (e':=[(0,_),(4,_),(5,_),(6,_),(10,_),(11,_),(12,_),(13,_),(14,_),(15,_),(16,_),(17,_),(18,_),(102,_)]) ⟨I,I,I,I,I,I,I,I,I,I,I,I,I,I,trivial⟩ (zH (zIH I (uZ (rB (zH (zF (mv I I (gv (zQ (q:=1) I I oM oM) I (asg I I ?_)))))))))))));refine zX ?_;refine gqL ((j+1),h4) ?_ ?_ (he:=⟨I,I,I,I,I,I,I,I,I,I,I,congrArg (λz=>some (vI z)) (yII (λe=>absurd e.1 zoz)),I,trivial⟩)
    · exact⟨mle,oM⟩
    omega
   refine gX (uV (uV (gW (zH (zP (zP (zF (mv I I (gv (yJ (q:=0) I I) I (zX (zH ?_)))))))))));refine cnd (λeo=>?_) λeo=>?_
   ·
    have ej:j=B2.length:=by omega
    have dx:fdZ B2 ((L.getD i []).getD q zT)<0:=by unfold fdZ;rw[<-ej];exact eo
    refine zP (zF (mv I I (gv (kL mh2 underlying35 I) I (asg I I (zX (zH (zF (mv I I (mv I I (mv I I ?_))))))))));replace rL:=rL.mono cq;refine lX (xI [] i underlying76 uN rL) λyp rd=>(lX (xA uN rd) λyo rc=>(mv I I (lX (xI zT q underlying35 zL rc) λyn rb=>(lX (xA zL rb) λym ra=>(zK (zO (ρ:=(tPt (k+1))) (m:=1) (xs:=[((L.getD i []).getD q zT)]) (ps':=[(0,_)]) underlying35 yU I I I (xW (yN oM)) e2z (zG I (Pc.arr (Pc.here _) zT 0 dC) (ra.le (Le.t (Le.q (l:=k+1) oM))) zR) zok nP) I I I ?_)))))
    rintro yl zh ⟨vh,rfl,lm⟩
    refine yC (A:=[]) (ρ:=(tPt (k+1))) lm ?_;intro h4 ar ke;replace aj:=aj.mono (cq.trans ar);refine xR (A:=[_,_]) (uS (zV (ρ:=(tPt (k+1))) (bytes:=168) underlying35 yU I I I I nP I I aj ke bO bO)) I I I ?_
    rintro oa zg ⟨tu,nn,rfl,ll⟩
    refine asg I I (zX (vM (e':=[(0,_),(4,_),(5,_),(6,_),(10,_),(11,_),(13,_),(14,_),(15,_),(16,_),(17,_),(12,_)]) ⟨I,I,I,I,I,I,I,I,I,I,I,I,trivial⟩ (zH (zF (mv I I (mv I I (zK (zO (ρ:=rpI) (m:=1) (xs:=[(↑B2.length:Int)]) (ps':=[(0,_)]) underlying22 gK I I I wM e2z (zG I (Pc.arr (Pc.here _) (0:Int) 0 dC) (jA oM oM) zR) zoj nP) I I I ?_)))))))
    rintro nz rk ⟨nm,rfl,eh⟩
    refine yC (A:=[]) (ρ:=rpI) eh ?_;intro h5 cn kd;replace bh:=bh.mono ((cq.trans ar).trans cn);refine xR (A:=[]) (uS (zV (ρ:=rpI) (bytes:=8) underlying22 gK I I I I nP I I bh kd bO bO)) I I I ?_
    rintro fl rj ⟨mm,ey,rfl,eg⟩
    refine asg I I (zX (rB (zH (zF (mv I I (gv (zQ (q:=1) I I oM oM) I (asg I I (zX ?_))))))));refine gqL ((q+1),(B2++[((L.getD i []).getD q zT)]),(LN++[(↑B2.length:Int)]),oa,nn,fl,ey,h5) ?_ ?_
    · exact⟨mle,ll.up,eg,by omega,by rw[fg] at dx ⊢;exact(if_pos dx).symm,by rw[jf,show(↑B2.length:Int)=adN (plB (ptB L i) (L.getD i []) q) ((L.getD i []).getD q zT) from by rw[fg] at dx ⊢;exact(if_pos dx).symm];rfl⟩
    omega
   have ej:j=B2.length:=by omega
   have dx:¬fdZ B2 ((L.getD i []).getD q zT)<0:=by unfold fdZ;rw[<-ej];exact eo
   refine uZ (zH (zF (mv I I (mv I I (zK (zO (ρ:=rpI) (m:=1) (xs:=[(zBB B2 ((L.getD i []).getD q zT) j)]) (ps':=[(0,_)]) underlying22 gK I I I wM e2z (zG I (Pc.arr (Pc.here _) (0:Int) 0 dC) (jA oM oM) zR) zoj nP) I I I ?_)))))
   rintro nz rk ⟨nm,rfl,eh⟩
   refine yC (A:=[]) (ρ:=rpI) eh ?_;intro h4 ar kc;replace bh:=bh.mono (cq.trans ar);refine xR (A:=[]) (uS (zV (ρ:=rpI) (bytes:=8) underlying22 gK I I I I nP I I bh kc bO bO)) I I I ?_
   rintro fl rj ⟨mm,ey,rfl,eg⟩
   refine asg I I (zX (rB (vM (e':=[(0,_),(4,_),(5,_),(6,_),(10,_),(11,_),(12,_),(13,_),(14,_),(16,_),(15,_)]) ⟨I,I,I,I,I,I,I,I,I,I,I,trivial⟩ (zH (zF (mv I I (gv (zQ (q:=1) I I oM oM) I (asg I I (zX ?_)))))))));refine gqL ((q+1),B2,(LN++[(zBB B2 ((L.getD i []).getD q zT) j)]),O,bl,fl,ey,h4) ?_ ?_
   · exact⟨mle,aj.up,eg,by omega,by rw[fg] at dx ⊢;exact(if_neg dx).symm,by rw[jf,show zBB B2 ((L.getD i []).getD q zT) j=adN (plB (ptB L i) (L.getD i []) q) ((L.getD i []).getD q zT) from by rw[ej,fg] at *;exact(if_neg dx).symm];rfl⟩
   omega
  have ek:q=(L.getD i []).length:=by omega
  refine gX (uV (uV (gW (zH (zP (zF (mv I I (mv I I (yC (A:=[]) (ρ:=rpI) bh ?_)))))))));intro h4 ar bf;refine zK (zO (ρ:=(rpS rpI)) (m:=1) (xs:=[LN]) (ps':=[(0,_)]) underlying51 jF I I I vC e2z (zG I (Pc.arr (Pc.here _) [] 0 dC) bf zR) zoj nP) I I I ?_
  rintro yk zf ⟨vg,rfl,lk⟩
  refine yC (A:=[]) (ρ:=(rpS rpI)) lk ?_;intro h5 cn kb;replace ad:=ad.mono ((jp.trans ar).trans cn);refine xR (A:=[]) (uS (zV (ρ:=(rpS rpI)) (bytes:=24) underlying51 jF I I I I nP I I ad kb bO bO)) I I I ?_
  rintro fk ze ⟨tt,gu,rfl,lj⟩
  refine asg I I (zX (vM (e':=[(0,_),(4,_),(5,_),(6,_),(10,_),(11,_),(12,_),(14,_),(15,_),(13,_)]) e10 (zH (zP (zF (asg (v:=vI (0)) I I (zX (zH (vN ?_)))))))));refine gcL (ι:=Nat×List (List Int)×Value×List Value×Mem) (λ(e,E2,bv,dk,me)=>(MLe h5 me/\(RL (rpA 2 rpI) me dk E2/\e<=LN.length/\E2.length=zBG L i+e),[(0,vL),(4,vP b4 0),(5,vP b5 0),(6,vP b6 0),(10,vP ab 0),(11,bv),(12,O),(13,fk),(14,vI ↑i),(15,be),(19,vI ↑e)],[.gs 22 1 fk (II++[LN]).length gu,.gs 31 9 O B2.length bl,.gs 118 2 bv E2.length dk,.var ab 39 ec,.var b6 39 dz,.var b5 29 ea,.var b4 29 eb],me,LN.length-e)) (0,ED,ae,av,h5) ?_ ?_
  · exact⟨mle,ko.up,by omega,rv⟩
  rintro⟨e,E2,bv,dk,me⟩ ⟨rn,cy,rq,un⟩
  refine xC ?_;have ix:=du.2 i oM;refine zP (zP (zF (mv I I (mv I I ?_))));replace bf:=bf.mono (cn.trans rn);refine gv (qH underlying22 I bf) I (gv (yJ I I) I (zX (zH ?_)));refine cnd (λmy=>?_) λmy=>?_
  ·
   refine uZ (zH (zP (vN ?_)));refine qO (A:=[_,_]) 17 [] [(0,.q),(1,.q),(2,.q),(3,.q),(4,.q),(5,.q),(6,.q),(7,.q),(8,.q),(9,.q),(10,.q),(11,.q),(12,.q),(13,.q),(14,.c),(15,.c),(16,.q)] yA nX (wP zor) nX (qL I I I (qL I I I (qL I I I (wX I (xI (0:Int) e underlying22 ty3 bf) λyj qz=>(wX I (xA ty3 qz) λyi qy=>?_)))));obtain⟨rfl,ue,tm⟩:=kM qy;refine qL I I I (qL I I I (wC I (λ_ _=>zQ (q:=1) I I oM oM) I (qL I I I (w_q I (λh' L' hh hR=>qH underlying22 I (bf.mono hh)) I (wC I (λ_ _=>wF I I oM oM) I (wX I (xI (0:Int) ((e+1)%LN.length) underlying22 ty3 bf (hi:=by exact Nat.mod_lt _ oM)) λyh qx=>(wX I (xA ty3 qx) λyg qw=>?_)))))));obtain⟨rfl,ud,tl⟩:=kM qw;refine wX I (xV (ρ:=(rpA 2 rpI)) (wJ (ps':=[(0,_),(1,_)]) underlying118 dR I I sizeOf3 e4z I (zKX 2 wM) (zG I (Pc.arr (Pc.here _) (0:Int) 0 dC) (jA oM oM) (zG I (Pc.arr (Pc.here _) (0:Int) 1 dC) (jA oM oM) zR)))) λyf qv=>?_;refine w_c I (jM (λX=>zO (ρ:=(rpA 2 rpI)) (m:=1) (xs:=[[(LN.getD e (0:Int)),(LN.getD ((e+1)%LN.length) (0:Int))]]) (ps':=[(0,_)]) underlying117 dR I I I (zKX 2 wM) e2z (zG I (Pc.arr (Pc.here _) (List.replicate 2 (0:Int)) 0 dC) qv zR) (show 1*2<=16777216 from by decide) nP) I ?_)
   rintro ye zd ⟨vf,rfl,li⟩
   refine w_c I (wA (A:=[]) (ρ:=(rpA 2 rpI)) li dK ?_);intro h6 de ka;replace cy:=cy.mono de;refine tG (A:=[_,_]) (λX=>uS (zV (ρ:=(rpA 2 rpI)) (bytes:=16) underlying117 dR I I I I nP I I cy ka bO bO)) I (wH zov) ?_
   rintro ny zc ⟨ts,nl,rfl,lh⟩
   refine zKZ I I I (cM (rB (vM (e':=[(0,_),(4,_),(5,_),(6,_),(10,_),(12,_),(13,_),(14,_),(15,_),(19,_),(11,_)]) ⟨I,I,I,I,I,I,I,I,I,I,I,trivial⟩ (zH (zF (mv I I (gv (zQ (q:=1) I I oM oM) I (asg I I (zX ?_)))))))));refine gqL ((e+1),(E2++[[(LN.getD e (0:Int)),(LN.getD ((e+1)%LN.length) (0:Int))]]),ny,nl,h6) ?_ ?_
   · exact⟨mle,lh,by omega,by rw[lAz,un];rfl⟩
   omega
  have um:E2.length=zBG L i+LN.length:=by omega
  refine gX (uV (uV (gW (rB (zH (zF (mv I I (gv (zQ (q:=1) I I oM oM) I (asg I I (zX ?_))))))))));refine gqL ((i+1),E2,B2,(II++[LN]),bv,dk,O,bl,fk,gu,me) ?_ ?_
  · exact⟨mle,cy,aj.up,lj.up,by omega,by rw[um,ul,ek];rfl,by rw[fg,ek];rfl,by rw[ci,jf,ek];rfl⟩
  omega
 have ei:i=L.length:=by omega
 have ug:=mn L.length oM;rw[ei] at rv bk ci;have hI1:II.length=L.length:=by rw[ci];exact xK _ _
 have na:∀i,i<L.length->(II.getD i []).length=(L.getD i []).length:=λi hi=>by rw[ci];exact zKS hi
 have gc:∀i q,i<L.length->q<(II.getD i []).length->0<=(II.getD i []).getD q 0/\(II.getD i []).getD q 0<↑M.length:=λi q hi hq=>by rw[ci] at hq ⊢;rw[bk];exact zZM hi hq
 refine gX (uV (uV (gW (zH (zP (zF (mv I I (gv (kL mh1 underlying35 I) I (asg I I (zX (zH (zP (zP ?_)))))))))))));refine zF (mv I I (gv (gJ (p:=2) I I oM oM) I (gv (mM (q:=512) I I) I ?_)));refine gU 6 158 (vB (((512:Int)<((2:Int)*(↑M.length:Int)))\/((256:Int)<((↑ED.length:Int)+(2:Int))))) ?_ ?_
 ·
  refine zW ((512:Int)<((2:Int)*(↑M.length:Int))) (λhg=>?_) (λhg=>?_)
  ·
   refine gT hg I (nT I I I I I I (nT I I I I I I (nT I I I I I I (nT I I I I I I (gv (cT I I) I (zX (gqU ?_)))))));exact congrArg some (vS hg)
  refine gF hg I (y5 I I I (mv I I (y5 I I I (gv (kL mh2 underlying117 I) I (y5 I I I (gv (zQ (q:=2) I I oM oM) I (y5 I I I (gv (mM (q:=256) I I) I (gv (cV I I) I (zX (gqU ?_)))))))))));exact congrArg some (vT hg)
 refine zX (zH ?_);refine cnd (λmx=>?_) λmx=>?_
 ·
  have mh:prB L:=by unfold prB;show 512<2*(ptB L L.length).length\/_;rw[<-bk];omega
  refine zP (zF (lX (xV (ρ:=(rpP (tLs 1) (rpP rpV (rpS (rpP rpI (rpP rpI (rpQ 1))))))) (wE (ps':=[]) underlying39 gB I I (pV underlying39) trivial I (yF vC (yF rO vC)) zR)) λyd qu=>?_));replace bj:=bj.mono (((dw.trans el).trans dv).trans cg);refine yI (A:=[_,_,_,_]) (uB sizeOf39 pH bj qu) λuw lw=>(asg (v:=vI (2)) I I (zX (zH (lJ (nK ?_)))));obtain⟨e1,e2,e3⟩:=pr_2 gh (Classical.not_not.1 dy) fd mh;rw[e1,e2,e3];refine aR 53 14 ?_;have km:=RL.nil (ρ:=rpP (tPl (1000*k+1000*l1+1000*l2+2000) (1000*k+1000*l1+1000*l2+2000)) (rpP tII kR)) (h:=ma);refine uJ (fV (t:=6) gV mh5 I lw) ?_;intro vi iy kf;refine gR (.cons_cons _ (List.nil_sublist _)) (λE S=>jN I iy (tM I) E S) ?_;exact⟨_,_,_,I,(Rp.Is.le kf (Le.p (Le.s (Le.t (Le.q (l:=k+l1+l2+20) oM))) (Le.p (Le.refl _) (Le.s (Le.p (Le.refl _) (Le.p (Le.refl _) (Le.q (l:=5) dC))))))),I,I,km⟩
 have mh:¬prB L:=by unfold prB;show ¬(512<2*(ptB L L.length).length\/_);rw[<-bk];omega
 obtain⟨rr,rq,uh⟩:=pr_0 gh (Classical.not_not.1 dy) fd mh;refine uZ (zH (zP (zP (zF (asg (v:=vI (0)) I I (zX (zH (vN (xM 31 9 ?_)))))))));have kl:=RL.nil (ρ:=rpT (rpQ (k+l1+l2+5))) (h:=ma);refine gcL (ι:=Nat×List Tq×List Value×Value×List Value×Mem) (λ(i,PP,cm,cc,es,mp)=>(MLe ma mp/\((rpP rpV (rpP rpV (rpS (rpP rpI (rpP rpI (rpQ 1)))))).R mp cm (cc,(Value.slice none 0 0,[]))/\RL (tPt (k+l1+l2+5)) mp es PP/\cc.oneCell'=true/\i<=2*M.length/\PP=zWN L lo hi i),[(4,vP b4 0),(5,vP b5 0),(6,vP b6 0),(10,vP ab 0),(12,D),(13,C),(20,vI (↑M.length:Int)),(21,vI ↑i)],[.gs 31 9 cc PP.length es,.gs 22 1 C II.length ax,.gs 31 9 D M.length bd,.gs 118 2 ae ED.length av,.var ab 39 cm,.var b6 39 dz,.var b5 29 ea,.var b4 29 eb],mp,2*M.length-i)) (0,[],ec,(.slice none 0 0),[],ma) ?_ ?_
 · exact⟨mle,oq.up,kl,I,by omega,I⟩
 rintro⟨i,PP,cm,cc,es,mp⟩ ⟨bt,ap,bg,tq,hi2,je⟩
 refine xC ?_;have hPl:PP.length=i:=by rw[je];exact xK _ _
 refine zP (zP (zF (mv I I (mv I I (gv (gJ (p:=2) I I oM oM) I (gv (yJ I I) I (zX (zH ?_))))))));refine cnd (λmw=>?_) λmw=>?_
 ·
  refine uZ (zH (zP (vN (zP (zF ?_)))));replace dd:=dd.mono ((dv.trans cg).trans bt);refine lX (xB yD pH dd) λyc qt=>(nA (ρ:=(rpQ 1)) (X:=(0:Rat)) wB (yN dC) λb22 zp oo=>?_);have jw:=(Le.q (l:=l1+1) oM).R oo;refine yI (A:=[]) (uB sizeOf29 pH jw (qt.le (Le.q (l:=l1+1) oM))) λuv fm=>(zX (zH (zP (zP (zF (mv I I (mv I I (gv (sZ I I) I (zX (zH ?_))))))))));refine cnd (λen=>?_) λen=>?_
  ·
   refine zF ?_;replace dc:=dc.mono ((dv.trans cg).trans bt);refine lX (xB yD pH dc) λyb qs=>?_;have jv:=(Le.q (l:=l1+l2+1) oM).R fm;refine yI (A:=[]) (uB sizeOf29 pH jv (qs.le (Le.q (l:=l1+l2+1) oM))) λut lv=>(zX (zH ?_));refine qO (A:=[_]) 21 [] [(0,.q),(1,.q),(2,.q),(3,.q),(4,.q),(5,.q),(6,.q),(7,.q),(8,.q),(9,.q),(10,.q),(11,.q),(12,.q),(13,.q),(14,.q),(15,.q),(16,.q),(17,.q),(18,.c),(19,.c),(20,.q),(21,.t)] yA nX (wP zor) nX (wC I (λ_ _=>(xU underlying39 I sizeOf35 I).cv (show _=vP ab 0 from congrArg (vP ab) zo0)) I (wX I (aA (xB uN (Pc.fst pH) ap)) λnw fz=>?_));subst fz;refine qL I I I (qL I I I (qL I I I (wC I (λ_ _=>wF I I oM oM) I (w_q I (λh' L' hh hR=>(xN (i%M.length) (hR _ mh2) underlying35 sizeOf31 I I rP (by exact Nat.mod_lt _ oM) nP).cv (show _=zM 1 D (((i%M.length)*9+0)) from congrArg (zM 1 D) zo0)) I ?_))));replace ak:=ak.mono bt;refine w_q I (λh' L' hh hR=>(sM (sz:=3) (q:=0) 0 (Pc.arr (Pc.here _) zT (i%M.length) (by exact Nat.mod_lt _ oM)) I nP (ak.mono hh) (hR _ mh2) underlying31 sizeOf29 I I I dC).cv (show _=zM 1 D (((i%M.length)*9+0)) from congrArg (zM 1 D) (by show((i%M.length)*9+0)+0*3=((i%M.length)*9+0);omega))) I (bH (F:=λv_=>(rpQ (k+1)).Is mp v_ ((M.getD (i%M.length) zT).x)) I (wZ yD (Pc.arr (Pc.tx (Pc.here _)) zT (i%M.length) (by exact Nat.mod_lt _ oM)) I nP I ak I) (sS mh2) I ?_);intro nv fy;refine qL I I I (qL I I I (qL I I I (wC I (λ_ _=>wF I I oM oM) I (w_q I (λh' L' hh hR=>(xN (i%M.length) (hR _ mh2) underlying35 sizeOf31 I I rP (by exact Nat.mod_lt _ oM) nP).cv (show _=zM 1 D (((i%M.length)*9+0)) from congrArg (zM 1 D) zo0)) I (w_q I (λh' L' hh hR=>(sM (sz:=3) (q:=1) 1 (Pc.arr (Pc.here _) zT (i%M.length) (by exact Nat.mod_lt _ oM)) I nP (ak.mono hh) (hR _ mh2) underlying31 sizeOf29 I I I dC).cv (show _=zM 1 D (((i%M.length)*9+3)) from congrArg (zM 1 D) (by show((i%M.length)*9+0)+1*3=((i%M.length)*9+3);omega))) I (bH (F:=λv_=>(rpQ (k+1)).Is mp v_ ((M.getD (i%M.length) zT).y)) I (wZ yD (Pc.arr (Pc.ty (Pc.here _)) zT (i%M.length) (by exact Nat.mod_lt _ oM)) I nP I ak I) (sS mh2) I ?_))))));intro nu fx;refine wX I (xB yD pH lv) λnt fw=>(wX I (xV (ρ:=(tPt (k+l1+l2+1))) (wJ (ps':=[(0,_),(1,_),(2,_)]) underlying31 yU I I sizeOf29 e6z I (xW (yN oM)) (zG I (Pc.tx (Pc.here _)) (fy.le (Le.q (l:=k+l1+l2+1) oM)) (zG I (Pc.ty (Pc.here _)) (fx.le (Le.q (l:=k+l1+l2+1) oM)) (zG I (Pc.tz (Pc.here _)) (fw.le (Le.q (l:=k+l1+l2+1) oM)) zR))))) λns fv=>?_);refine w_c I (jM (λX=>zO (ρ:=(tPt (k+l1+l2+1))) (m:=1) (xs:=[(T3.mk ((M.getD (i%M.length) zT).x) ((M.getD (i%M.length) zT).y) hi)]) (ps':=[(0,_)]) underlying35 yU I I I (xW (yN oM)) e2z (zG I (Pc.arr (Pc.here _) zT 0 dC) fv zR) zok nP) I ?_)
   rintro nr ri ⟨nk,rfl,ee⟩
   refine w_c I (wA (A:=[]) (ρ:=(tPt (k+l1+l2+1))) ee dK ?_);intro h4 ar jz;replace bg:=bg.mono ar;refine tG (A:=[_]) (λX=>uS (zV (ρ:=(tPt (k+l1+l2+5))) (bytes:=168) underlying35 yU I I I I nP I I bg (jz.le (Le.s (Le.t (Le.q (l:=k+l1+l2+5) oM)))) bO bO)) I (wH zov) ?_
   rintro fj rh ⟨cf,ew,rfl,ed⟩
   refine wC I (λ_ _=>(xU underlying39 I sizeOf35 I).cv (show _=vP ab 0 from congrArg (vP ab) zo0)) I ?_;replace ap:=ap.mono ar;refine yK (A:=[_,_,_,_,_]) I (uB sizeOf35 (Pc.fst pH) ap (j8 cf)) λnh lu=>(cM (rB (vM (e':=[(4,_),(5,_),(6,_),(10,_),(12,_),(13,_),(20,_),(21,_)]) e8 (zH (zF (mv I I (gv (zQ (q:=1) I I oM oM) I (asg I I (zX (xO (A:=[]) ?_))))))))));refine gqL ((i+1),(PP++[(T3.mk ((M.getD (i%M.length) zT).x) ((M.getD (i%M.length) zT).y) hi)]),nh,fj,ew,h4) ?_ ?_
   · exact⟨mle,lu,ed,cf,by omega,by rw[je,bk];exact congrArg (λz=>zWN L lo hi i++[T3.mk _ _ z]) (if_pos (by have h9:=en;rw[bk] at h9;exact h9)).symm⟩
   omega
  refine uZ (zH ?_);refine qO (A:=[_]) 21 [] [(0,.q),(1,.q),(2,.q),(3,.q),(4,.q),(5,.q),(6,.q),(7,.q),(8,.q),(9,.q),(10,.q),(11,.q),(12,.q),(13,.q),(14,.q),(15,.q),(16,.q),(17,.q),(18,.c),(19,.c),(20,.q),(21,.t)] yA nX (wP zor) nX (wC I (λ_ _=>(xU underlying39 I sizeOf35 I).cv (show _=vP ab 0 from congrArg (vP ab) zo0)) I (wX I (aA (xB uN (Pc.fst pH) ap)) λnw fz=>?_));subst fz;refine qL I I I (qL I I I (qL I I I (wC I (λ_ _=>wF I I oM oM) I (w_q I (λh' L' hh hR=>(xN (i%M.length) (hR _ mh2) underlying35 sizeOf31 I I rP (by exact Nat.mod_lt _ oM) nP).cv (show _=zM 1 D (((i%M.length)*9+0)) from congrArg (zM 1 D) zo0)) I ?_))));replace ak:=ak.mono bt;refine w_q I (λh' L' hh hR=>(sM (sz:=3) (q:=0) 0 (Pc.arr (Pc.here _) zT (i%M.length) (by exact Nat.mod_lt _ oM)) I nP (ak.mono hh) (hR _ mh2) underlying31 sizeOf29 I I I dC).cv (show _=zM 1 D (((i%M.length)*9+0)) from congrArg (zM 1 D) (by show((i%M.length)*9+0)+0*3=((i%M.length)*9+0);omega))) I (bH (F:=λv_=>(rpQ (k+1)).Is mp v_ ((M.getD (i%M.length) zT).x)) I (wZ yD (Pc.arr (Pc.tx (Pc.here _)) zT (i%M.length) (by exact Nat.mod_lt _ oM)) I nP I ak I) (sS mh2) I ?_);intro nv fy;refine qL I I I (qL I I I (qL I I I (wC I (λ_ _=>wF I I oM oM) I (w_q I (λh' L' hh hR=>(xN (i%M.length) (hR _ mh2) underlying35 sizeOf31 I I rP (by exact Nat.mod_lt _ oM) nP).cv (show _=zM 1 D (((i%M.length)*9+0)) from congrArg (zM 1 D) zo0)) I (w_q I (λh' L' hh hR=>(sM (sz:=3) (q:=1) 1 (Pc.arr (Pc.here _) zT (i%M.length) (by exact Nat.mod_lt _ oM)) I nP (ak.mono hh) (hR _ mh2) underlying31 sizeOf29 I I I dC).cv (show _=zM 1 D (((i%M.length)*9+3)) from congrArg (zM 1 D) (by show((i%M.length)*9+0)+1*3=((i%M.length)*9+3);omega))) I (bH (F:=λv_=>(rpQ (k+1)).Is mp v_ ((M.getD (i%M.length) zT).y)) I (wZ yD (Pc.arr (Pc.ty (Pc.here _)) zT (i%M.length) (by exact Nat.mod_lt _ oM)) I nP I ak I) (sS mh2) I ?_))))));intro nu fx;refine wX I (xB yD pH fm) λnt fw=>(wX I (xV (ρ:=(tPt (k+l1+1))) (wJ (ps':=[(0,_),(1,_),(2,_)]) underlying31 yU I I sizeOf29 e6z I (xW (yN oM)) (zG I (Pc.tx (Pc.here _)) (fy.le (Le.q (l:=k+l1+1) oM)) (zG I (Pc.ty (Pc.here _)) (fx.le (Le.q (l:=k+l1+1) oM)) (zG I (Pc.tz (Pc.here _)) (fw.le (Le.q (l:=k+l1+1) oM)) zR))))) λns fv=>?_);refine w_c I (jM (λX=>zO (ρ:=(tPt (k+l1+1))) (m:=1) (xs:=[(T3.mk ((M.getD (i%M.length) zT).x) ((M.getD (i%M.length) zT).y) lo)]) (ps':=[(0,_)]) underlying35 yU I I I (xW (yN oM)) e2z (zG I (Pc.arr (Pc.here _) zT 0 dC) fv zR) zok nP) I ?_)
  rintro nr ri ⟨nk,rfl,ee⟩
  refine w_c I (wA (A:=[]) (ρ:=(tPt (k+l1+1))) ee dK ?_);intro h4 ar jy;replace bg:=bg.mono ar;refine tG (A:=[_]) (λX=>uS (zV (ρ:=(tPt (k+l1+l2+5))) (bytes:=168) underlying35 yU I I I I nP I I bg (jy.le (Le.s (Le.t (Le.q (l:=k+l1+l2+5) oM)))) bO bO)) I (wH zov) ?_
  rintro fj rh ⟨cf,ew,rfl,ed⟩
  refine wC I (λ_ _=>(xU underlying39 I sizeOf35 I).cv (show _=vP ab 0 from congrArg (vP ab) zo0)) I ?_;replace ap:=ap.mono ar;refine yK (A:=[_,_,_,_,_]) I (uB sizeOf35 (Pc.fst pH) ap (j8 cf)) λng lt=>(cM (rB (vM (e':=[(4,_),(5,_),(6,_),(10,_),(12,_),(13,_),(20,_),(21,_)]) e8 (zH (zF (mv I I (gv (zQ (q:=1) I I oM oM) I (asg I I (zX (xO (A:=[]) ?_))))))))));refine gqL ((i+1),(PP++[(T3.mk ((M.getD (i%M.length) zT).x) ((M.getD (i%M.length) zT).y) lo)]),ng,fj,ew,h4) ?_ ?_
  · exact⟨mle,lt,ed,cf,by omega,by rw[je,bk];exact congrArg (λz=>zWN L lo hi i++[T3.mk _ _ z]) (if_neg (by have h9:=en;rw[bk] at h9;exact h9)).symm⟩
  omega
 have go:PP=ppZ L lo hi:=by rw[je,show i=2*M.length by omega,bk];rfl
 have zj:PP.length=2*M.length:=by rw[go,bk];exact yGZ
 refine gX (uV (uV (gW (zH (zP (zF (yC (A:=[]) (ρ:=(tPt (k+l1+l2+5))) bg ?_)))))));intro h4 ar jx;replace ap:=ap.mono ar;have ls:(rpP (tLs (k+l1+l2+5)) (rpP rpV (rpS (rpP rpI (rpP rpI (rpQ 1)))))).R h4 cm (PP,(cc,(Value.slice none 0 0,[])).2):=yE0 ap jx;refine cL (vs:=[vI (1)]) ⟨I,trivial⟩ call27 (λw hs=>rU hs dC dC) λya h5 cn qr=>(nA (ρ:=(rpQ 2)) (X:=(0:Rat)) wB (yN dC) λno zo on=>(yI (A:=[]) (uB sizeOf29 pH on qr) λer cz=>(zX (zH (zP ?_)))));refine zJ 10 _ [(9,(24,53,[.bool false,.slice none 0 0,.slice none 0 0,.bool false,.slice none 0 0,.slice none 0 0,.bool false,.slice none 0 0,.slice none 0 0,.bool false,.slice none 0 0,.slice none 0 0,.slice none 0 0,.string ⟨#[]⟩]))] [(0,.q),(1,.q),(2,.q),(5,.q),(3,.c),(4,.q),(6,.c),(7,.q),(8,.q),(9,.a),(10,.t)] yA (jS.cons I I (qA jU I I) jS.nil) zor (qD I I kW) (λr hr=>hr) (wX I (xV (ρ:=(rpQ 1)) (wE (ps':=[]) underlying29 wB I I (qB underlying29) trivial I (yN dC) zR)) λxz fu=>(wX I (xV (ρ:=(rpQ 1)) (wE (ps':=[]) underlying29 wB I I (qB underlying29) trivial I (yN dC) zR)) λxy ft=>(wX I (xB yD pH cz) λxx qp=>?_)));replace dd:=dd.mono ((((dv.trans cg).trans bt).trans ar).trans cn);refine wX I (xB yD pH dd) λxu fr=>?_;refine w_c I (sC (ev1 I) call87 (λw hs=>oJ hs qp dC) λxw h6 de qo=>?_);replace fu:=fu.mono de;replace ft:=ft.mono de;refine wX I (xV (ρ:=(tPt 2)) (wJ (ps':=[(0,_),(1,_),(2,_)]) underlying31 yU I I sizeOf29 e6z I (xW (yN dC)) (zG I (Pc.tx (Pc.here _)) (fu.le (Le.q (l:=2) dC)) (zG I (Pc.ty (Pc.here _)) (ft.le (Le.q (l:=2) dC)) (zG I (Pc.tz (Pc.here _)) qo zR))))) λxv fs=>?_;refine w_c I ?_;replace fr:=fr.mono de;refine sC (ev1 I) call87 (λw hs=>oJ hs fr oM) λxt h7 gk qn=>?_;replace fs:=fs.mono gk;refine wX I (xV (ρ:=(tPl 2 (l1+1))) (wE (ps':=[(0,_),(1,_)]) underlying50 sU I I (sY underlying50) e4z I (yF (xW (yN dC)) (yN oM)) (zG I (Pc.fst (Pc.here _)) fs (zG I (Pc.snd (Pc.here _)) (qn.le (Le.q (l:=l1+1) oM)) zR)))) λxr qm=>(wX I (xV (ρ:=(rpP (tPl 2 (l1+1)) (rpP rpV kR))) (wE (ps':=[(0,_),(2,_)]) underlying53 jU I I (bQ underlying53) e4z I (yF (yF (xW (yN dC)) (yN oM)) (yF rO gY)) (zG I (Pc.fst (Pc.here _)) qm (zG I (Pc.snd (Pc.snd (Pc.here _))) (cZ (show ByB [98,111,116,116,111,109] by unfold ByB;decide)) zR)))) λxq ql=>?_);refine w_a I I (λcp=>?_);have ol:(rpP (tPl 1 1) (rpP rpV kR)).R h7 [.bool false,.slice none 0 0,.slice none 0 0,.bool false,.slice none 0 0,.slice none 0 0,.bool false,.slice none 0 0,.slice none 0 0,.bool false,.slice none 0 0,.slice none 0 0,.slice none 0 0,.string ⟨#[]⟩] ((zT,(0:Rat)),((Value.slice none 0 0),([]:List Nat))):=(yF (yF (xW (yN dC)) (yN dC)) (yF rO gY));have ju:=(Le.p (Le.p (Le.t (Le.q (l:=2) dC)) (Le.q (l:=l1+1) oM)) (Le.refl _)).R ol;refine yK (A:=[]) I (uB sizeOf53 pH ju ql) λnf lr=>(cM (vM (e':=[(5,_),(6,_),(10,_),(13,_),(20,_),(23,_),(24,_)]) e7 (zH (zP (zF (lX (xV (ρ:=(rpQ 1)) (wE (ps':=[]) underlying29 wB I I (qB underlying29) trivial I (yN dC) zR)) λxp qk=>(lX (xV (ρ:=(rpQ 1)) (wE (ps':=[]) underlying29 wB I I (qB underlying29) trivial I (yN dC) zR)) λxo qj=>?_)))))));replace cz:=cz.mono (de.trans gk);refine lX (xB yD pH cz) λxn qi=>(lX (xV (ρ:=(tPt 2)) (wJ (ps':=[(0,_),(1,_),(2,_)]) underlying31 yU I I sizeOf29 e6z I (xW (yN dC)) (zG I (Pc.tx (Pc.here _)) (qk.le (Le.q (l:=2) dC)) (zG I (Pc.ty (Pc.here _)) (qj.le (Le.q (l:=2) dC)) (zG I (Pc.tz (Pc.here _)) qi zR))))) λxm qh=>?_);replace dc:=dc.mono ((((((dv.trans cg).trans bt).trans ar).trans cn).trans de).trans gk);refine lX (xB yD pH dc) λxl qg=>(lX (xV (ρ:=(tPl 2 (l2+1))) (wE (ps':=[(0,_),(1,_)]) underlying50 sU I I (sY underlying50) e4z I (yF (xW (yN dC)) (yN oM)) (zG I (Pc.fst (Pc.here _)) qh (zG I (Pc.snd (Pc.here _)) (qg.le (Le.q (l:=l2+1) oM)) zR)))) λxk qf=>(lX (xV (ρ:=(rpP (tPl 2 (l2+1)) (rpP rpV kR))) (wE (ps':=[(0,_),(2,_)]) underlying53 jU I I (bQ underlying53) e4z I (yF (yF (xW (yN dC)) (yN oM)) (yF rO gY)) (zG I (Pc.fst (Pc.here _)) qf (zG I (Pc.snd (Pc.snd (Pc.here _))) (cZ (show ByB [116,111,112] by unfold ByB;decide)) zR)))) λxj qe=>(nA (ρ:=(rpP (tPl 1 1) (rpP rpV kR))) (X:=((zT,(0:Rat)),((Value.slice none 0 0),([]:List Nat)))) jU (yF (yF (xW (yN dC)) (yN dC)) (yF rO gY)) λco zn ok=>?_)))
 have jt:=(Le.p (Le.p (Le.t (Le.q (l:=2) dC)) (Le.q (l:=l2+1) oM)) (Le.refl _)).R ok;refine yI (A:=[]) (uB sizeOf53 pH jt qe) λne ln=>(zX (zH (zP (zP (zF (asg (v:=vI (0)) I I (zX (zH (vN (xM 53 14 ?_))))))))));have kk:=RL.nil (ρ:=rpP (tPl (4*k+4*l1+4*l2+40) (100*k+100*l1+100*l2+1000)) (rpP tII kR)) (h:=h7);refine xM 22 1 ?_;have kj:=RL.nil (ρ:=rpS rpI) (h:=h7);refine xM 22 1 ?_;have ki:=RL.nil (ρ:=rpS rpI) (h:=h7);refine gcL (ι:=Nat×List Fc×List (List Int)×List (List Int)×List Value×List Value×List Value×Value×List Value×Value×List Value×Value×List Value×Mem) (λ(i,F0,C0,T0,cl,dj,ck,ba,cj,aq,eq,ao,di,mq)=>(MLe h7 mq/\((rpP (tLs (k+l1+l2+5)) (rpP rpV (rpS (rpP rpI (rpP rpI (rpQ 1)))))).R mq cl (PP,(ba,([]:List En)))/\(rpP (tPl 5 (l1+l2+5)) (rpP rpV kR)).R mq dj ((T3.mk (0:Rat) (0:Rat) (-((1:Int):Rat)),-lo),(aq,[98,111,116,116,111,109]))/\(rpP (tPl 5 (l1+l2+5)) (rpP rpV kR)).R mq ck ((T3.mk (0:Rat) (0:Rat) ((1:Int):Rat),hi),(ao,[116,111,112]))/\RL (tFc (4*k+4*l1+4*l2+40) (100*k+100*l1+100*l2+1000)) mq cj F0/\ba.oneCell'=true/\RL (rpS rpI) mq eq C0/\aq.oneCell'=true/\RL (rpS rpI) mq di T0/\ao.oneCell'=true/\i<=II.length/\C0=yJC L i/\T0=yE9 L i/\F0=zSU L lo hi i),[(6,vP b6 0),(10,vP ab 0),(13,C),(20,vI (↑M.length:Int)),(24,vP cp 0),(25,vP co 0),(26,vI ↑i)],[.gs 22 1 ao T0.length di,.gs 22 1 aq C0.length eq,.gs 53 14 ba F0.length cj,.var co 53 ck,.var cp 53 dj,.var no 29 er,.gs 22 1 C II.length ax,.gs 31 9 D M.length bd,.gs 118 2 ae ED.length av,.var ab 39 cl,.var b6 39 dz,.var b5 29 ea,.var b4 29 eb],mq,II.length-i)) (0,[],[],[],cm,nf,ne,(.slice none 0 0),[],(.slice none 0 0),[],(.slice none 0 0),[],h7) ?_ ?_
 · exact⟨mle,ls.up,((Le.p (Le.p (Le.t (Le.q (l:=5) dC)) (Le.q (l:=l1+l2+5) oM)) (Le.refl _)).R lr),((Le.p (Le.p (Le.t (Le.q (l:=5) dC)) (Le.q (l:=l1+l2+5) oM)) (Le.refl _)).R ln),kk,I,kj,I,ki,I,by omega,I,I,I⟩
 rintro⟨i,F0,C0,T0,cl,dj,ck,ba,cj,aq,eq,ao,di,mq⟩ ⟨jo,ce,bi,aw,cw,mi,cu,tp,br,ry,hi3,jh,jd,jg⟩
 refine xC ?_;have hCl:C0.length=i:=by rw[jh];exact xK _ _
 have hTl:T0.length=i:=by rw[jd];exact xK _ _
 have hFl:F0.length=zBG L i:=by rw[jg];exact zVW oM
 have rp:=mn i oM;refine zP (zP (zF (mv I I (mv I I (gv (kL mh6 underlying51 I) I (gv (yJ I I) I (zX (zH ?_))))))));refine cnd (λmu=>?_) λmu=>?_
 ·
  have jq:=na i oM;have ix:=du.2 i oM;refine uZ (zH (zP (vN (zP ?_))));refine qO (A:=[_]) 10 [] [(0,.q),(1,.q),(2,.q),(3,.q),(4,.q),(5,.q),(6,.c),(7,.c),(8,.c),(9,.q),(10,.t)] yA nX zor nX (wC I (λ_ _=>(xU underlying53 I sizeOf51 I).cv (show _=vP cp 12 from congrArg (vP cp) zo0)) I (wX I (aA (xB bK (Pc.snd (Pc.fst pH)) bi)) λxi qd=>?_));subst qd;refine qL I I I (qL I I I (w_q I (λh' L' hh hR=>(xN i (hR _ mh5) underlying51 sizeOf22 I I I bO nP).cv (show _=zM 1 C ((i*1+0)) from congrArg (zM 1 C) zo0)) I ?_));replace ad:=ad.mono (((((bt.trans ar).trans cn).trans de).trans gk).trans jo);refine bH (F:=λv_=>(rpS rpI).Is mq v_ (II.getD i [])) I (wZ fN (Pc.arr (Pc.here _) [] i bO) I nP I ad I) (sS mh5) I ?_;intro xh qc;refine w_c I (sC (ev1 I) call67 (λw hs=>zL8 hs qc oM) λxg h8 bu qb=>?_);refine w_c I (jM (λX=>zO (ρ:=(rpS rpI)) (m:=1) (xs:=[zLG (II.getD i []) (II.getD i []).length]) (ps':=[(0,_)]) underlying51 jF I I I vC e2z (zG I (Pc.arr (Pc.here _) [] 0 dC) qb zR) zoj nP) I ?_)
  rintro xf za ⟨ve,rfl,lg⟩
  refine w_c I (wA (A:=[]) (ρ:=(rpS rpI)) lg dK ?_);intro h9 ch ik;replace cu:=cu.mono (bu.trans ch);refine tG (A:=[_]) (λX=>uS (zV (ρ:=(rpS rpI)) (bytes:=24) underlying51 jF I I I I nP I I cu ik bO bO)) I (wH zov) ?_
  rintro fi yz ⟨gg,ev,rfl,lf⟩
  refine wC I (λ_ _=>(xU underlying53 I sizeOf51 I).cv (show _=vP cp 12 from congrArg (vP cp) zo0)) I ?_;replace bi:=bi.mono (bu.trans ch);refine yK (A:=[_,_,_,_]) I (uB sizeOf51 (Pc.snd (Pc.fst pH)) bi (j8 gg)) λdn iw=>(cM (vM (e':=[(6,_),(10,_),(13,_),(20,_),(24,_),(25,_),(26,_)]) e7 (zH (zP (zF (asg I I (zX (zH (zP (zP (zF (asg (v:=vI (0)) I I (zX ?_)))))))))))));refine zH (vN (xM 3 1 ?_));have im:=RL.nil (ρ:=rpI) (h:=h9);refine gcL (ι:=Nat×List Int×Value×List Value×Mem) (λ(q,TL,cd,dm,mr)=>(MLe h9 mr/\(RL rpI mr dm TL/\q<=(II.getD i []).length/\TL=tpL L i q),[(6,vP b6 0),(10,vP ab 0),(13,C),(20,vI (↑M.length:Int)),(24,vP cp 0),(25,vP co 0),(26,vI ↑i),(27,cd),(28,vI ↑q)],[.gs 3 1 cd TL.length dm,.gs 22 1 ao T0.length di,.gs 22 1 fi (C0++[zLG (II.getD i []) (II.getD i []).length]).length ev,.gs 53 14 ba F0.length cj,.var co 53 ck,.var cp 53 dn,.var no 29 er,.gs 22 1 C II.length ax,.gs 31 9 D M.length bd,.gs 118 2 ae ED.length av,.var ab 39 cl,.var b6 39 dz,.var b5 29 ea,.var b4 29 eb],mr,(II.getD i []).length-q)) (0,[],(.slice none 0 0),[],h9) ?_ ?_
  · exact⟨mle,im,by omega,I⟩
  rintro⟨q,TL,cd,dm,mr⟩ ⟨gj,bz,hq2,mz⟩
  refine xC ?_;have zi:TL.length=q:=by rw[mz];exact xK _ _
  have jq:=na i oM;have ix:=du.2 i oM;refine zP (zP (zF (mv I I (mv I I (mv I I (gv ((xN i mh7 underlying51 sizeOf22 I I I bO nP).cv (show _=zM 1 C ((i*1+0)) from congrArg (zM 1 C) zo0)) I ?_))))));replace ad:=ad.mono ((bu.trans ch).trans gj);refine zKE (F:=λv_=>(rpS rpI).Is mr v_ (II.getD i [])) (wZ fN (Pc.arr (Pc.here _) [] i bO) I nP I ad I) (sS mh7) I ?_;intro xe qa;refine gv (qH underlying22 I qa) I (gv (yJ I I) I (zX (zH ?_)));refine cnd (λms=>?_) λms=>?_
  ·
   have tn:=gc i q oM oM;refine uZ (zH (zP (vN (zF (mv I I (mv I I (mv I I (gv ((xN i mh7 underlying51 sizeOf22 I I I bO nP).cv (show _=zM 1 C ((i*1+0)) from congrArg (zM 1 C) zo0)) I (zKE (F:=λv_=>(rpS rpI).Is mr v_ (II.getD i [])) (wZ fN (Pc.arr (Pc.here _) [] i bO) I nP I ad I) (sS mh7) I ?_)))))))));intro xd pz;refine mv I I (lX (xI (0:Int) q underlying22 ty3 pz) λxc py=>(lX (xA ty3 py) λxb px=>?_));obtain⟨rfl,uc,tk⟩:=kM px;refine mv I I (gv (zQ I I (by(have:=gc i q oM oM;omega)) (by(have:=gc i q oM oM;omega))) I (zK (zO (ρ:=rpI) (m:=1) (xs:=[(((II.getD i []).getD q (0:Int))+(↑M.length:Int))]) (ps':=[(0,_)]) underlying22 gK I I I wM e2z (zG I (Pc.arr (Pc.here _) (0:Int) 0 dC) (jA oM oM) zR) zoj nP) I I I ?_))
   rintro xa yy ⟨vd,rfl,ld⟩
   refine yC (A:=[]) (ρ:=rpI) ld ?_;intro nd bq ij;replace bz:=bz.mono bq;refine xR (A:=[]) (uS (zV (ρ:=rpI) (bytes:=8) underlying22 gK I I I I nP I I bz ij bO bO)) I I I ?_
   rintro nq yx ⟨tr,nj,rfl,lc⟩
   refine asg I I (zX (rB (vM (e':=[(6,_),(10,_),(13,_),(20,_),(24,_),(25,_),(26,_),(28,_),(27,_)]) ⟨I,I,I,I,I,I,I,I,I,trivial⟩ (zH (zF (mv I I (gv (zQ (q:=1) I I oM oM) I (asg I I (zX ?_)))))))));refine gqL ((q+1),(TL++[(((II.getD i []).getD q (0:Int))+(↑M.length:Int))]),nq,nj,nd) ?_ ?_
   · exact⟨mle,lc,by omega,by rw[mz,ci,bk];rfl⟩
   omega
  have ek:q=(II.getD i []).length:=by omega
  refine gX (uV (uV (gW (zH (zP (zF (gv ((xU underlying53 I sizeOf51 I).cv (show _=vP co 12 from congrArg (vP co) zo0)) I ?_)))))));replace aw:=aw.mono ((bu.trans ch).trans gj);refine lX (aA (xB bK (Pc.snd (Pc.fst pH)) aw)) λwz pw=>?_;subst pw;refine mv I I (yC (A:=[]) (ρ:=rpI) bz ?_);intro nd bq ii;refine zK (zO (ρ:=(rpS rpI)) (m:=1) (xs:=[TL]) (ps':=[(0,_)]) underlying51 jF I I I vC e2z (zG I (Pc.arr (Pc.here _) [] 0 dC) ii zR) zoj nP) I I I ?_
  rintro wy yw ⟨vc,rfl,lb⟩
  refine yC (A:=[]) (ρ:=(rpS rpI)) lb ?_;intro gr ct ih;replace br:=br.mono ((((bu.trans ch).trans gj).trans bq).trans ct);refine xR (A:=[]) (uS (zV (ρ:=(rpS rpI)) (bytes:=24) underlying51 jF I I I I nP I I br ih bO bO)) I I I ?_
  rintro jn yv ⟨gf,gt,rfl,la⟩
  refine gv ((xU underlying53 I sizeOf51 I).cv (show _=vP co 12 from congrArg (vP co) zo0)) I ?_;replace aw:=aw.mono (bq.trans ct);refine yI (A:=[_,_,_]) (uB sizeOf51 (Pc.snd (Pc.fst pH)) aw (j8 gf)) λff iv=>(zX (vM (e':=[(6,_),(10,_),(13,_),(20,_),(24,_),(25,_),(26,_)]) e7 (zH (zP (zF (asg (v:=vI (0)) I I (zX (zH (vN ?_)))))))));refine gcL (ι:=Nat×List Fc×List Value×Value×List Value×Mem) (λ(q,F1,cb,ah,ca,mf)=>(MLe gr mf/\((rpP (tLs (k+l1+l2+5)) (rpP rpV (rpS (rpP rpI (rpP rpI (rpQ 1)))))).R mf cb (PP,(ah,([]:List En)))/\RL (tFc (4*k+4*l1+4*l2+40) (100*k+100*l1+100*l2+1000)) mf ca F1/\ah.oneCell'=true/\q<=(II.getD i []).length/\F1=zSU L lo hi i++sfX L lo hi i q),[(6,vP b6 0),(10,vP ab 0),(13,C),(20,vI (↑M.length:Int)),(24,vP cp 0),(25,vP co 0),(26,vI ↑i),(29,vI ↑q)],[.gs 22 1 jn (T0++[TL]).length gt,.gs 22 1 fi (C0++[zLG (II.getD i []) (II.getD i []).length]).length ev,.gs 53 14 ah F1.length ca,.var co 53 ff,.var cp 53 dn,.var no 29 er,.gs 22 1 C II.length ax,.gs 31 9 D M.length bd,.gs 118 2 ae ED.length av,.var ab 39 cb,.var b6 39 dz,.var b5 29 ea,.var b4 29 eb],mf,(II.getD i []).length-q)) (0,F0,cl,ba,cj,gr) ?_ ?_
  · exact⟨mle,ce.up,cw.up,mi,by omega,by rw[jg];exact(List.append_nil _).symm⟩
  rintro⟨q,F1,cb,ah,ca,mf⟩ ⟨rm,an,bx,jc,hq3,nb⟩
  refine xC ?_;have zk:F1.length=zBG L i+q:=by rw[nb,lAz,zVW oM];exact congrArg _ (xK _ _)
  have jq:=na i oM;have ix:=du.2 i oM;have hti:=s5 (((i:Int):Int):Rat);have htk:=s5 (((q:Int):Int):Rat);have hqi:=sT (i:Int) oM oM;have hqk:=sT (q:Int) oM oM;refine zP (zP (zF (mv I I (mv I I (mv I I (gv ((xN i mh6 underlying51 sizeOf22 I I I bO nP).cv (show _=zM 1 C ((i*1+0)) from congrArg (zM 1 C) zo0)) I ?_))))));replace ad:=ad.mono ((bq.trans ct).trans rm);refine zKE (F:=λv_=>(rpS rpI).Is mf v_ (II.getD i [])) (wZ fN (Pc.arr (Pc.here _) [] i bO) I nP I ad I) (sS mh6) I ?_;intro wx pv;refine gv (qH underlying22 I pv) I (gv (yJ I I) I (zX (zH ?_)));refine cnd (λmo=>?_) λmo=>?_
  ·
   have tn:=gc i q oM oM;have hrb:=gc i ((q+1)%(II.getD i []).length) oM (Nat.mod_lt _ oM);refine uZ (zH (zP (vN (zP ?_))));refine zJ 23 _ [] [(0,.q),(1,.q),(2,.q),(3,.q),(4,.q),(5,.q),(6,.q),(7,.q),(8,.q),(9,.q),(10,.q),(11,.q),(12,.q),(13,.q),(14,.q),(15,.q),(16,.q),(17,.q),(18,.q),(19,.q),(20,.q),(21,.q),(22,.q)] yA nX (wP zor) nX (λr hr=>hr) (qL I I I (qL I I I (w_q I (λh' L' hh hR=>(xN i (hR _ mh6) underlying51 sizeOf22 I I I bO nP).cv (show _=zM 1 C ((i*1+0)) from congrArg (zM 1 C) zo0)) I (bH (F:=λv_=>(rpS rpI).Is mf v_ (II.getD i [])) I (wZ fN (Pc.arr (Pc.here _) [] i bO) I nP I ad I) (sS mh6) I ?_))));intro ww pu;refine qL I I I (wX I (xI (0:Int) q underlying22 ty3 pu) λwv pt=>(wX I (xA ty3 pt) λwu pq=>?_));obtain⟨rfl,tw,tj⟩:=kM pq;refine qL I I I (qL I I I (w_q I (λh' L' hh hR=>(xN i (hR _ mh6) underlying51 sizeOf22 I I I bO nP).cv (show _=zM 1 C ((i*1+0)) from congrArg (zM 1 C) zo0)) I (bH (F:=λv_=>(rpS rpI).Is mf v_ (II.getD i [])) I (wZ fN (Pc.arr (Pc.here _) [] i bO) I nP I ad I) (sS mh6) I ?_)));intro wt pp;refine qL I I I (wC I (λ_ _=>zQ (q:=1) I I oM oM) I (qL I I I (qL I I I (w_q I (λh' L' hh hR=>(xN i (hR _ mh6) underlying51 sizeOf22 I I I bO nP).cv (show _=zM 1 C ((i*1+0)) from congrArg (zM 1 C) zo0)) I (bH (F:=λv_=>(rpS rpI).Is mf v_ (II.getD i [])) I (wZ fN (Pc.arr (Pc.here _) [] i bO) I nP I ad I) (sS mh6) I ?_)))));intro ws po;refine w_q I (λh' L' hh hR=>qH underlying22 I (po.mono hh)) I (wC I (λ_ _=>wF I I oM oM) I (wX I (xI (0:Int) ((q+1)%(II.getD i []).length) underlying22 ty3 pp (hi:=by exact Nat.mod_lt _ oM)) λwq pn=>(wX I (xA ty3 pn) λwp pm=>?_)));obtain⟨rfl,tv,ti⟩:=kM pm;refine zKZ I I I (zKZ I I I (cM (vM (e':=[(6,_),(10,_),(13,_),(20,_),(24,_),(25,_),(26,_),(29,_),(30,_),(31,_)]) e10 (zH (zP ?_)))));refine zJ 12 _ [(11,(32,31,[.bool false,.slice none 0 0,.slice none 0 0,.bool false,.slice none 0 0,.slice none 0 0,.bool false,.slice none 0 0,.slice none 0 0]))] [(0,.q),(1,.q),(2,.q),(3,.q),(4,.q),(5,.q),(6,.q),(7,.q),(8,.q),(9,.q),(10,.c),(11,.a),(12,.t)] yA (jS.cons I I (qA yU I I) jS.nil) (wP zor) (qD I I kW) (λr hr=>hr) (wC I (λ_ _=>(xU underlying39 I sizeOf35 I).cv (show _=vP ab 0 from congrArg (vP ab) zo0)) I (wX I (xB uN (Pc.fst pH) an) λwo pk=>(qL I I I (wX I (xI zT (((II.getD i []).getD ((q+1)%(II.getD i []).length) 0).toNat) underlying35 zL pk (hi:=by(show _<PP.length;omega))) λwm pj=>(wX I (xA zL pj) λwl pi=>(wC I (λ_ _=>(xU underlying39 I sizeOf35 I).cv (show _=vP ab 0 from congrArg (vP ab) zo0)) I (wX I (xB uN (Pc.fst pH) an) λwk ph=>(qL I I I (wX I (xI zT (((II.getD i []).getD q 0).toNat) underlying35 zL ph (hi:=by(show _<PP.length;omega))) λwj pg=>(wX I (xA zL pg) λwi pf=>?_))))))))));refine w_c I (sC (ev2 I I) call22 (λw hs=>zL7 hs pi pf oM) λwh nc fc fq=>?_);replace fq:=Rp.Is.le fq (Le.t (Le.q (l:=4*k+4*l1+4*l2+23) oM));refine w_a I I (λjk=>?_);have oj:(tPt 1).R nc [.bool false,.slice none 0 0,.slice none 0 0,.bool false,.slice none 0 0,.slice none 0 0,.bool false,.slice none 0 0,.slice none 0 0] zT:=(xW (yN dC));have gy:=(Le.t (Le.q (l:=4*k+4*l1+4*l2+23) oM)).R oj;refine yK (A:=[]) I (uB sizeOf31 pH gy fq) λsc fa=>(cM (vM (e':=[(6,_),(10,_),(13,_),(20,_),(24,_),(25,_),(26,_),(29,_),(30,_),(31,_),(32,_)]) ⟨I,I,I,I,I,I,I,I,I,I,I,trivial⟩ (zH (zP ?_))));refine zJ 8 _ [(7,(33,31,[.bool false,.slice none 0 0,.slice none 0 0,.bool false,.slice none 0 0,.slice none 0 0,.bool false,.slice none 0 0,.slice none 0 0]))] [(0,.q),(1,.q),(2,.q),(3,.q),(5,.q),(4,.c),(6,.q),(7,.a),(8,.t)] yA (jS.cons I I (qA yU I I) jS.nil) zor (qD I I kW) (λr hr=>hr) (wC I (λ_ _=>(yG (sz:=3) (q:=1) 1 underlying31 sizeOf29 I I I dC).cv (show _=vP jk 3 from congrArg (vP jk) zo0)) I (wX I (xB yD (Pc.ty pH) fa) λwg fp=>(wC I (λ_ _=>(yG (sz:=3) (q:=0) 0 underlying31 sizeOf29 I I I dC).cv (show _=vP jk 0 from congrArg (vP jk) zo0)) I (wX I (xB yD (Pc.tx pH) fa) λwf pe=>(wX I (xV (ρ:=(rpQ 1)) (wE (ps':=[]) underlying29 wB I I (qB underlying29) trivial I (yN dC) zR)) λwd fo=>?_)))))
   refine w_c I (sC (ev1 I) call87 (λw hs=>oJ hs pe oM) λwe uq fb pd=>?_);replace fp:=fp.mono fb;replace fo:=fo.mono fb;refine wX I (xV (ρ:=(tPt (4*k+4*l1+4*l2+23))) (wJ (ps':=[(0,_),(1,_),(2,_)]) underlying31 yU I I sizeOf29 e6z I (xW (yN oM)) (zG I (Pc.tx (Pc.here _)) fp (zG I (Pc.ty (Pc.here _)) pd (zG I (Pc.tz (Pc.here _)) (fo.le (Le.q (l:=4*k+4*l1+4*l2+23) oM)) zR))))) λwc pc=>?_;refine w_a I I (λb33=>?_);have oi:(tPt 1).R uq [.bool false,.slice none 0 0,.slice none 0 0,.bool false,.slice none 0 0,.slice none 0 0,.bool false,.slice none 0 0,.slice none 0 0] zT:=(xW (yN dC));have gx:=(Le.t (Le.q (l:=4*k+4*l1+4*l2+23) oM)).R oi;refine yK (A:=[]) I (uB sizeOf31 pH gx pc) λsb ez=>(cM (zH ?_));refine qO (A:=[_,_,_,_]) 32 [] [(0,.q),(1,.q),(2,.q),(3,.q),(4,.q),(5,.q),(6,.q),(7,.q),(8,.q),(11,.q),(12,.q),(13,.q),(14,.q),(15,.q),(16,.q),(17,.q),(18,.q),(21,.q),(25,.q),(0,.x [10,23,24,27] [9,10,22,23,24,26,27] [19,20]),(28,.c),(29,.c),(30,.c),(31,.q),(32,.t)] yA nX zor nX (wC I (λ_ _=>(xU underlying39 I sizeOf36 I).cv (show _=vP ab 1 from congrArg (vP ab) zo0)) I ?_);replace an:=an.mono (fc.trans fb);refine wX I (aA (xB fQ (Pc.snd (Pc.fst pH)) an)) λwb oz=>?_;subst oz;refine wX I (xB zL pH ez) λwa bo=>(wX I (xB zL pH ez) λvz dt=>(wC I (λ_ _=>(xU underlying39 I sizeOf35 I).cv (show _=vP ab 0 from congrArg (vP ab) zo0)) I (wX I (xB uN (Pc.fst pH) an) λvy oy=>(qL I I I (wX I (xI zT (((II.getD i []).getD q 0).toNat) underlying35 zL oy (hi:=by(show _<PP.length;omega))) λvx ox=>(wX I (xA zL ox) λvw dr=>(qL I I I (qL I I I (qL I I I (qL I I I (wC I (λ_ _=>zQ I I oM oM) I (qL I I I (qL I I I ?_)))))))))))));refine wC I (λ_ _=>zQ I I oM oM) I (qL I I I (qL I I I (yEZ (N:=9) I ?_)));refine zDI I I I I ?x2 ?x3
   case' x2=>
    refine sC (ev2 I I) call56 (λw hs=>lF hs dt dr oM) λjm rx az bc=>?_;replace bc:=Rp.Is.le bc (Le.q (l:=15*k+15*l1+15*l2+93) oM);refine tE I ?_;replace bo:=bo.mono az;refine xX I (xV (ρ:=(tPl (4*k+4*l1+4*l2+23) (15*k+15*l1+15*l2+93))) (wE (ps':=[(0,_),(1,_)]) underlying50 sU I I (sY underlying50) e4z I (yF (xW (yN oM)) (yN oM)) (zG I (Pc.fst (Pc.here _)) bo (zG I (Pc.snd (Pc.here _)) bc zR)))) λjl aa=>?_;refine zDI I I I I ?x4 ?x5
    case' x4=>
     refine sC (ev1 I) call88 (λw hs=>vJ hs oM oM) λdp gq ac bb=>?_;obtain⟨rfl,bs⟩:=kF bb;refine tE I (bZ I (λ_ _=>wW (pa:=([115]:List Nat)) (pb:=(qK (((↑i:Int):Int):Rat))) I I zos) I (tE I (bZ I (λ_ _=>wW (pa:=(([115]:List Nat)++(qK (((↑i:Int):Int):Rat)))) (pb:=([46]:List Nat)) I I zos) I ?_)));refine zDI I I I I ?x6 ?x7
     case' x6=>
      refine sC (ev1 I) call88 (λw hs=>vJ hs oM oM) λbm dh Z ai=>?_;obtain⟨rfl,au⟩:=kF ai;refine tE I (bZ I (λ_ _=>wW (pa:=((([115]:List Nat)++(qK (((↑i:Int):Int):Rat)))++([46]:List Nat))) (pb:=(qK (((↑q:Int):Int):Rat))) I I zos) I (zNS I I (jM (λX=>zO (ρ:=rpI) (m:=4) (xs:=(lU (II.getD i []) q M)) (ps':=[(0,_),(1,_),(2,_),(3,_)]) underlying22 gK I I I wM e8 (zG I (Pc.arr (Pc.here _) (0:Int) 0 dC) (jA oM oM) (zG I (Pc.arr (Pc.here _) (0:Int) 1 dC) (jA oM oM) (zG I (Pc.arr (Pc.here _) (0:Int) 2 dC) (jA oM oM) (zG I (Pc.arr (Pc.here _) (0:Int) 3 dC) (jA oM oM) zR)))) zoo nP) I ?_)));intro fh ga mg;obtain⟨eu,rfl,H⟩:=mg;refine zNS I I (wA (A:=[]) (ρ:=rpI) H dK ?_);intro df U ig;refine jM (λX=>zO (ρ:=(rpS rpI)) (m:=1) (xs:=[(lU (II.getD i []) q M)]) (ps':=[(0,_)]) underlying51 jF I I I vC e2z (zG I (Pc.arr (Pc.here _) [] 0 dC) ig zR) zoj nP) I ?_;intro bn bp am;obtain⟨ay,rfl,J⟩:=am;refine y9 ?_;replace aa:=aa.mono ((ac.trans Z).trans U)
     case' x7=>
      refine jM (λX=>zO (ρ:=rpI) (m:=4) (xs:=(lU (II.getD i []) q M)) (ps':=[(0,_),(1,_),(2,_),(3,_)]) underlying22 gK I I I wM e8 (zG I (Pc.arr (Pc.here _) (0:Int) 0 dC) (jA oM oM) (zG I (Pc.arr (Pc.here _) (0:Int) 1 dC) (jA oM oM) (zG I (Pc.arr (Pc.here _) (0:Int) 2 dC) (jA oM oM) (zG I (Pc.arr (Pc.here _) (0:Int) 3 dC) (jA oM oM) zR)))) zoo nP) I ?_
      rintro fh ga ⟨eu,rfl,H⟩
      refine zDI I I I I ?x8 ?x9
      case' x8=>
       refine sC (ev1 I) call88 (λw hs=>vJ hs oM oM) λbm dh Z ai=>?_;obtain⟨rfl,au⟩:=kF ai;refine tE I (bZ I (λ_ _=>wW (pa:=((([115]:List Nat)++(qK (((↑i:Int):Int):Rat)))++([46]:List Nat))) (pb:=(qK (((↑q:Int):Int):Rat))) I I zos) I (zNS I I ?_));replace H:=H.mono Z;refine wA (A:=[]) (ρ:=rpI) H dK ?_;intro df U ie;refine jM (λX=>zO (ρ:=(rpS rpI)) (m:=1) (xs:=[(lU (II.getD i []) q M)]) (ps':=[(0,_)]) underlying51 jF I I I vC e2z (zG I (Pc.arr (Pc.here _) [] 0 dC) ie zR) zoj nP) I ?_;intro bn bp am;obtain⟨ay,rfl,J⟩:=am;refine y9 ?_;replace aa:=aa.mono ((ac.trans Z).trans U)
      case' x9=>
       refine wA (A:=[]) (ρ:=rpI) H dK ?_;intro dh Z id;refine jM (λX=>zO (ρ:=(rpS rpI)) (m:=1) (xs:=[(lU (II.getD i []) q M)]) (ps':=[(0,_)]) underlying51 jF I I I vC e2z (zG I (Pc.arr (Pc.here _) [] 0 dC) id zR) zoj nP) I ?_
       rintro bn bp ⟨ay,rfl,J⟩
       refine g7 I I (sC (ev1 I) call88 (λw hs=>vJ hs oM oM) λbm df U ai=>?_);obtain⟨rfl,au⟩:=kF ai;refine tE I (bZ I (λ_ _=>wW (pa:=((([115]:List Nat)++(qK (((↑i:Int):Int):Rat)))++([46]:List Nat))) (pb:=(qK (((↑q:Int):Int):Rat))) I I zos) I (y9 ?_));replace aa:=aa.mono ((ac.trans Z).trans U);replace J:=J.mono U
    case' x5=>
     refine jM (λX=>zO (ρ:=rpI) (m:=4) (xs:=(lU (II.getD i []) q M)) (ps':=[(0,_),(1,_),(2,_),(3,_)]) underlying22 gK I I I wM e8 (zG I (Pc.arr (Pc.here _) (0:Int) 0 dC) (jA oM oM) (zG I (Pc.arr (Pc.here _) (0:Int) 1 dC) (jA oM oM) (zG I (Pc.arr (Pc.here _) (0:Int) 2 dC) (jA oM oM) (zG I (Pc.arr (Pc.here _) (0:Int) 3 dC) (jA oM oM) zR)))) zoo nP) I ?_
     rintro fh ga ⟨eu,rfl,H⟩
     refine zDI I I I I ?x10 ?x11
     case' x10=>
      refine sC (ev1 I) call88 (λw hs=>vJ hs oM oM) λdp gq ac bb=>?_;obtain⟨rfl,bs⟩:=kF bb;refine tE I (bZ I (λ_ _=>wW (pa:=([115]:List Nat)) (pb:=(qK (((↑i:Int):Int):Rat))) I I zos) I (tE I (bZ I (λ_ _=>wW (pa:=(([115]:List Nat)++(qK (((↑i:Int):Int):Rat)))) (pb:=([46]:List Nat)) I I zos) I ?_)));refine zDI I I I I ?x12 ?x13
      case' x12=>
       refine sC (ev1 I) call88 (λw hs=>vJ hs oM oM) λbm dh Z ai=>?_;obtain⟨rfl,au⟩:=kF ai;refine tE I (bZ I (λ_ _=>wW (pa:=((([115]:List Nat)++(qK (((↑i:Int):Int):Rat)))++([46]:List Nat))) (pb:=(qK (((↑q:Int):Int):Rat))) I I zos) I (zNS I I ?_));replace H:=H.mono (ac.trans Z);refine wA (A:=[]) (ρ:=rpI) H dK ?_;intro df U ic;refine jM (λX=>zO (ρ:=(rpS rpI)) (m:=1) (xs:=[(lU (II.getD i []) q M)]) (ps':=[(0,_)]) underlying51 jF I I I vC e2z (zG I (Pc.arr (Pc.here _) [] 0 dC) ic zR) zoj nP) I ?_;intro bn bp am;obtain⟨ay,rfl,J⟩:=am;refine y9 ?_;replace aa:=aa.mono ((ac.trans Z).trans U)
      case' x13=>
       replace H:=H.mono ac;refine wA (A:=[]) (ρ:=rpI) H dK ?_;intro dh Z ib;refine jM (λX=>zO (ρ:=(rpS rpI)) (m:=1) (xs:=[(lU (II.getD i []) q M)]) (ps':=[(0,_)]) underlying51 jF I I I vC e2z (zG I (Pc.arr (Pc.here _) [] 0 dC) ib zR) zoj nP) I ?_;intro bn bp am;obtain⟨ay,rfl,J⟩:=am;refine g7 I I (sC (ev1 I) call88 (λw hs=>vJ hs oM oM) λbm df U ai=>?_);obtain⟨rfl,au⟩:=kF ai;refine tE I (bZ I (λ_ _=>wW (pa:=((([115]:List Nat)++(qK (((↑i:Int):Int):Rat)))++([46]:List Nat))) (pb:=(qK (((↑q:Int):Int):Rat))) I I zos) I (y9 ?_));replace aa:=aa.mono ((ac.trans Z).trans U);replace J:=J.mono U
     case' x11=>
      refine wA (A:=[]) (ρ:=rpI) H dK ?_;intro gq ac ia;refine jM (λX=>zO (ρ:=(rpS rpI)) (m:=1) (xs:=[(lU (II.getD i []) q M)]) (ps':=[(0,_)]) underlying51 jF I I I vC e2z (zG I (Pc.arr (Pc.here _) [] 0 dC) ia zR) zoj nP) I ?_
      rintro bn bp ⟨ay,rfl,J⟩
      refine g7 I I (sC (ev1 I) call88 (λw hs=>vJ hs oM oM) λdp dh Z bb=>?_);obtain⟨rfl,bs⟩:=kF bb;refine tE I (bZ I (λ_ _=>wW (pa:=([115]:List Nat)) (pb:=(qK (((↑i:Int):Int):Rat))) I I zos) I (tE I (bZ I (λ_ _=>wW (pa:=(([115]:List Nat)++(qK (((↑i:Int):Int):Rat)))) (pb:=([46]:List Nat)) I I zos) I (g7 I I (sC (ev1 I) call88 (λw hs=>vJ hs oM oM) λbm df U ai=>?_)))));obtain⟨rfl,au⟩:=kF ai;refine tE I (bZ I (λ_ _=>wW (pa:=((([115]:List Nat)++(qK (((↑i:Int):Int):Rat)))++([46]:List Nat))) (pb:=(qK (((↑q:Int):Int):Rat))) I I zos) I (y9 ?_));replace aa:=aa.mono ((ac.trans Z).trans U);replace J:=J.mono (Z.trans U)
   case' x3=>
    refine jM (λX=>zO (ρ:=rpI) (m:=4) (xs:=(lU (II.getD i []) q M)) (ps':=[(0,_),(1,_),(2,_),(3,_)]) underlying22 gK I I I wM e8 (zG I (Pc.arr (Pc.here _) (0:Int) 0 dC) (jA oM oM) (zG I (Pc.arr (Pc.here _) (0:Int) 1 dC) (jA oM oM) (zG I (Pc.arr (Pc.here _) (0:Int) 2 dC) (jA oM oM) (zG I (Pc.arr (Pc.here _) (0:Int) 3 dC) (jA oM oM) zR)))) zoo nP) I ?_
    rintro fh ga ⟨eu,rfl,H⟩
    refine zDI I I I I ?x14 ?x15
    case' x14=>
     refine sC (ev2 I I) call56 (λw hs=>lF hs dt dr oM) λjm rx az bc=>?_;replace bc:=Rp.Is.le bc (Le.q (l:=15*k+15*l1+15*l2+93) oM);refine tE I ?_;replace bo:=bo.mono az;refine xX I (xV (ρ:=(tPl (4*k+4*l1+4*l2+23) (15*k+15*l1+15*l2+93))) (wE (ps':=[(0,_),(1,_)]) underlying50 sU I I (sY underlying50) e4z I (yF (xW (yN oM)) (yN oM)) (zG I (Pc.fst (Pc.here _)) bo (zG I (Pc.snd (Pc.here _)) bc zR)))) λjl aa=>?_;refine zDI I I I I ?x16 ?x17
     case' x16=>
      refine sC (ev1 I) call88 (λw hs=>vJ hs oM oM) λdp gq ac bb=>?_;obtain⟨rfl,bs⟩:=kF bb;refine tE I (bZ I (λ_ _=>wW (pa:=([115]:List Nat)) (pb:=(qK (((↑i:Int):Int):Rat))) I I zos) I (tE I (bZ I (λ_ _=>wW (pa:=(([115]:List Nat)++(qK (((↑i:Int):Int):Rat)))) (pb:=([46]:List Nat)) I I zos) I ?_)));refine zDI I I I I ?x18 ?x19
      case' x18=>
       refine sC (ev1 I) call88 (λw hs=>vJ hs oM oM) λbm dh Z ai=>?_;obtain⟨rfl,au⟩:=kF ai;refine tE I (bZ I (λ_ _=>wW (pa:=((([115]:List Nat)++(qK (((↑i:Int):Int):Rat)))++([46]:List Nat))) (pb:=(qK (((↑q:Int):Int):Rat))) I I zos) I (zNS I I ?_));replace H:=H.mono ((az.trans ac).trans Z);refine wA (A:=[]) (ρ:=rpI) H dK ?_;intro df U hv;refine jM (λX=>zO (ρ:=(rpS rpI)) (m:=1) (xs:=[(lU (II.getD i []) q M)]) (ps':=[(0,_)]) underlying51 jF I I I vC e2z (zG I (Pc.arr (Pc.here _) [] 0 dC) hv zR) zoj nP) I ?_;intro bn bp am;obtain⟨ay,rfl,J⟩:=am;refine y9 ?_;replace aa:=aa.mono ((ac.trans Z).trans U)
      case' x19=>
       replace H:=H.mono (az.trans ac);refine wA (A:=[]) (ρ:=rpI) H dK ?_;intro dh Z hu;refine jM (λX=>zO (ρ:=(rpS rpI)) (m:=1) (xs:=[(lU (II.getD i []) q M)]) (ps':=[(0,_)]) underlying51 jF I I I vC e2z (zG I (Pc.arr (Pc.here _) [] 0 dC) hu zR) zoj nP) I ?_;intro bn bp am;obtain⟨ay,rfl,J⟩:=am;refine g7 I I (sC (ev1 I) call88 (λw hs=>vJ hs oM oM) λbm df U ai=>?_);obtain⟨rfl,au⟩:=kF ai;refine tE I (bZ I (λ_ _=>wW (pa:=((([115]:List Nat)++(qK (((↑i:Int):Int):Rat)))++([46]:List Nat))) (pb:=(qK (((↑q:Int):Int):Rat))) I I zos) I (y9 ?_));replace aa:=aa.mono ((ac.trans Z).trans U);replace J:=J.mono U
     case' x17=>
      replace H:=H.mono az;refine wA (A:=[]) (ρ:=rpI) H dK ?_;intro gq ac hp;refine jM (λX=>zO (ρ:=(rpS rpI)) (m:=1) (xs:=[(lU (II.getD i []) q M)]) (ps':=[(0,_)]) underlying51 jF I I I vC e2z (zG I (Pc.arr (Pc.here _) [] 0 dC) hp zR) zoj nP) I ?_;intro bn bp am;obtain⟨ay,rfl,J⟩:=am;refine g7 I I (sC (ev1 I) call88 (λw hs=>vJ hs oM oM) λdp dh Z bb=>?_);obtain⟨rfl,bs⟩:=kF bb;refine tE I (bZ I (λ_ _=>wW (pa:=([115]:List Nat)) (pb:=(qK (((↑i:Int):Int):Rat))) I I zos) I (tE I (bZ I (λ_ _=>wW (pa:=(([115]:List Nat)++(qK (((↑i:Int):Int):Rat)))) (pb:=([46]:List Nat)) I I zos) I (g7 I I (sC (ev1 I) call88 (λw hs=>vJ hs oM oM) λbm df U ai=>?_)))));obtain⟨rfl,au⟩:=kF ai;refine tE I (bZ I (λ_ _=>wW (pa:=((([115]:List Nat)++(qK (((↑i:Int):Int):Rat)))++([46]:List Nat))) (pb:=(qK (((↑q:Int):Int):Rat))) I I zos) I (y9 ?_));replace aa:=aa.mono ((ac.trans Z).trans U);replace J:=J.mono (Z.trans U)
    case' x15=>
     refine wA (A:=[]) (ρ:=rpI) H dK ?_;intro rx az ho;refine jM (λX=>zO (ρ:=(rpS rpI)) (m:=1) (xs:=[(lU (II.getD i []) q M)]) (ps':=[(0,_)]) underlying51 jF I I I vC e2z (zG I (Pc.arr (Pc.here _) [] 0 dC) ho zR) zoj nP) I ?_
     rintro bn bp ⟨ay,rfl,J⟩
     refine g7 I I ?_;replace dt:=dt.mono az;replace dr:=dr.mono az;refine sC (ev2 I I) call56 (λw hs=>lF hs dt dr oM) λjm gq ac bc=>?_;replace bc:=Rp.Is.le bc (Le.q (l:=15*k+15*l1+15*l2+93) oM);refine tE I ?_;replace bo:=bo.mono (az.trans ac);refine xX I (xV (ρ:=(tPl (4*k+4*l1+4*l2+23) (15*k+15*l1+15*l2+93))) (wE (ps':=[(0,_),(1,_)]) underlying50 sU I I (sY underlying50) e4z I (yF (xW (yN oM)) (yN oM)) (zG I (Pc.fst (Pc.here _)) bo (zG I (Pc.snd (Pc.here _)) bc zR)))) λjl aa=>(g7 I I (sC (ev1 I) call88 (λw hs=>vJ hs oM oM) λdp dh Z bb=>?_));obtain⟨rfl,bs⟩:=kF bb;refine tE I (bZ I (λ_ _=>wW (pa:=([115]:List Nat)) (pb:=(qK (((↑i:Int):Int):Rat))) I I zos) I (tE I (bZ I (λ_ _=>wW (pa:=(([115]:List Nat)++(qK (((↑i:Int):Int):Rat)))) (pb:=([46]:List Nat)) I I zos) I (g7 I I (sC (ev1 I) call88 (λw hs=>vJ hs oM oM) λbm df U ai=>?_)))));obtain⟨rfl,au⟩:=kF ai;refine tE I (bZ I (λ_ _=>wW (pa:=((([115]:List Nat)++(qK (((↑i:Int):Int):Rat)))++([46]:List Nat))) (pb:=(qK (((↑q:Int):Int):Rat))) I I zos) I (y9 ?_));replace J:=J.mono ((ac.trans Z).trans U);replace aa:=aa.mono (Z.trans U)
   all_goals
    refine w_c I (wA (A:=[]) (ρ:=(rpS rpI)) J dK ?_);intro h18 gm hn;replace aa:=aa.mono gm;refine sX (xV (ρ:=(tFc (4*k+4*l1+4*l2+23) (15*k+15*l1+15*l2+93))) (wE (ps':=[(0,_),(1,_),(2,_)]) underlying53 jU I I (bQ underlying53) e6z I (yF (yF (xW (yN oM)) (yN oM)) (yF vC gY)) (zG I (Pc.fst (Pc.here _)) aa (zG I (Pc.snd (Pc.fst (Pc.here _))) hn (zG I (Pc.snd (Pc.snd (Pc.here _))) (cZ ((((show ByB [115] by unfold ByB;decide).app bs).app (show ByB [46] by unfold ByB;decide)).app au)) zR))))) λvv ow=>?_;refine w_c I (jM (λX=>zO (ρ:=(tFc (4*k+4*l1+4*l2+23) (15*k+15*l1+15*l2+93))) (m:=1) (xs:=[(((nU PP ah (II.getD i []) q),zE (nU PP ah (II.getD i []) q) (pU PP ah ((II.getD i []).getD q 0))),([(lU (II.getD i []) q M)],(((([115]:List Nat)++(qK (((↑i:Int):Int):Rat)))++([46]:List Nat))++(qK (((↑q:Int):Int):Rat)))))]) (ps':=[(0,_)]) underlying36 jU I I I (yF (yF (xW (yN oM)) (yN oM)) (yF vC gY)) e2z (zG I (Pc.arr (Pc.here _) zA 0 dC) ow zR) zon nP) I ?_)
    rintro vu yu ⟨vb,rfl,kz⟩
    refine w_c I (wA (A:=[]) (ρ:=(tFc (4*k+4*l1+4*l2+23) (15*k+15*l1+15*l2+93))) kz dK ?_);intro uo jr hm;replace bx:=bx.mono (((((((fc.trans fb).trans az).trans ac).trans Z).trans U).trans gm).trans jr);refine tG (A:=[_,_,_,_]) (λX=>uS (zV (ρ:=(tFc (4*k+4*l1+4*l2+40) (100*k+100*l1+100*l2+1000))) (bytes:=264) underlying36 jU I I I I nP I I bx (hm.le (Le.s (Le.p (Le.p (Le.t (Le.q (l:=4*k+4*l1+4*l2+40) oM)) (Le.q (l:=100*k+100*l1+100*l2+1000) oM)) (Le.refl _)))) bO bO)) I (wH zov) ?_
    rintro np yt ⟨ge,ni,rfl,ky⟩
    refine wC I (λ_ _=>(xU underlying39 I sizeOf36 I).cv (show _=vP ab 1 from congrArg (vP ab) zo0)) I ?_;replace an:=an.mono (((((az.trans ac).trans Z).trans U).trans gm).trans jr);refine yK (A:=[_,_,_,_,_,_,_,_,_,_,_]) I (uB sizeOf36 (Pc.snd (Pc.fst pH)) an (j8 ge)) λjj iu=>(cM (rB (vM (e':=[(6,_),(10,_),(13,_),(20,_),(24,_),(25,_),(26,_),(29,_)]) e8 (zH (zF (mv I I (gv (zQ (q:=1) I I oM oM) I (asg I I (zX (xO (A:=[]) (xO (A:=[]) ?_)))))))))));refine gqL ((q+1),(F1++[(((nU PP ah (II.getD i []) q),zE (nU PP ah (II.getD i []) q) (pU PP ah ((II.getD i []).getD q 0))),([(lU (II.getD i []) q M)],(((([115]:List Nat)++(qK (((↑i:Int):Int):Rat)))++([46]:List Nat))++(qK (((↑q:Int):Int):Rat)))))]),jj,np,ni,uo) ?_ ?_
    · exact⟨mle,iu,ky,ge,by omega,by rw[nb,go,ci,bk,List.append_assoc];rfl⟩
    omega
  have ef:q=(II.getD i []).length:=by omega
  refine gX (uV (uV (gW (rB (zH (zF (mv I I (gv (zQ (q:=1) I I oM oM) I (asg I I (zX ?_))))))))));refine gqL ((i+1),F1,(C0++[zLG (II.getD i []) (II.getD i []).length]),(T0++[TL]),cb,dn,ff,ah,ca,fi,ev,jn,gt,mf) ?_ ?_
  · exact⟨mle,an,iw.up,iv.up,bx,jc,lf.up,gg,la.up,gf,by omega,by rw[jh,ci];rfl,by rw[jd,mz,ek,ci];rfl,by rw[nb,ef,ci];rfl⟩
  omega
 have ur:i=(bxZ L).length:=by rw[yJA];omega
 rw[ur] at jh jd jg;refine gX (uV (uV (gW (zH (zP (zF (gv ((xU underlying39 I sizeOf36 I).cv (show _=vP ab 1 from congrArg (vP ab) zo0)) I (lX (aA (xB fQ (Pc.snd (Pc.fst pH)) ce)) λvt ou=>?_))))))));subst ou;refine yC (A:=[_]) (ρ:=(rpS rpI)) cu ?_;intro h8 bu hj;replace bi:=bi.mono bu;have db:(tFc 5 (l1+l2+5)).R h8 dj (((T3.mk (0:Rat) (0:Rat) (-((1:Int):Rat)),-lo),(aq,[98,111,116,116,111,109])).1,(C0,(((T3.mk (0:Rat) (0:Rat) (-((1:Int):Rat)),-lo),(aq,[98,111,116,116,111,109])).2).2)):=zK0 bi hj;replace br:=br.mono bu;refine yC (A:=[]) (ρ:=(rpS rpI)) br ?_;intro h9 ch hb;replace aw:=aw.mono (bu.trans ch);have ir:(tFc 5 (l1+l2+5)).R h9 ck (((T3.mk (0:Rat) (0:Rat) ((1:Int):Rat),hi),(ao,[116,111,112])).1,(T0,(((T3.mk (0:Rat) (0:Rat) ((1:Int):Rat),hi),(ao,[116,111,112])).2).2)):=zK0 aw hb;replace db:=db.mono ch;refine lX (xB bJ pH db) λvq ot=>(lX (xB bJ pH ir) λvp os=>(zK (zO (ρ:=(tFc 5 (l1+l2+5))) (m:=2) (xs:=[(((T3.mk (0:Rat) (0:Rat) (-((1:Int):Rat)),-lo),(aq,[98,111,116,116,111,109])).1,(C0,(((T3.mk (0:Rat) (0:Rat) (-((1:Int):Rat)),-lo),(aq,[98,111,116,116,111,109])).2).2)),(((T3.mk (0:Rat) (0:Rat) ((1:Int):Rat),hi),(ao,[116,111,112])).1,(T0,(((T3.mk (0:Rat) (0:Rat) ((1:Int):Rat),hi),(ao,[116,111,112])).2).2))]) (ps':=[(0,_),(1,_)]) underlying36 jU I I I (yF (yF (xW (yN dC)) (yN oM)) (yF vC gY)) e4z (zG I (Pc.arr (Pc.here _) zA 0 dC) ot (zG I (Pc.arr (Pc.here _) zA 1 dC) os zR)) (show 2*14<=16777216 from by decide) nP) I I I ?_))
 rintro vo ys ⟨va,rfl,kx⟩
 refine yC (A:=[]) (ρ:=(tFc 5 (l1+l2+5))) kx ?_;intro nd bq ha;replace cw:=cw.mono ((bu.trans ch).trans bq);refine xR (A:=[]) (uS (zV (ρ:=(tFc (4*k+4*l1+4*l2+40) (100*k+100*l1+100*l2+1000))) (bytes:=264) underlying36 jU I I I I nP I I cw (ha.le (Le.s (Le.p (Le.p (Le.t (Le.q (l:=4*k+4*l1+4*l2+40) oM)) (Le.q (l:=100*k+100*l1+100*l2+1000) oM)) (Le.refl _)))) bO bO)) I I I ?_
 rintro vn yr ⟨ml,uy,rfl,kw⟩
 refine gv ((xU underlying39 I sizeOf36 I).cv (show _=vP ab 1 from congrArg (vP ab) zo0)) I ?_;replace ce:=ce.mono ((bu.trans ch).trans bq);refine yI (A:=[_,_,_,_,_,_,_]) (uB sizeOf36 (Pc.snd (Pc.fst pH)) ce (j8 ml)) λfe da=>(zX (vM (e':=[(6,_),(10,_)]) e2z (zH (zP (zF (yC (A:=[]) (ρ:=(tFc (4*k+4*l1+4*l2+40) (100*k+100*l1+100*l2+1000))) kw ?_))))));intro gr ct gz;replace da:=da.mono ct;have iq:(tSd (k+l1+l2+5) (4*k+4*l1+4*l2+40) (100*k+100*l1+100*l2+1000) 1).R gr fe ((PP,(ba,([]:List En))).1,((F0++[(((T3.mk (0:Rat) (0:Rat) (-((1:Int):Rat)),-lo),(aq,[98,111,116,116,111,109])).1,(C0,(((T3.mk (0:Rat) (0:Rat) (-((1:Int):Rat)),-lo),(aq,[98,111,116,116,111,109])).2).2)),(((T3.mk (0:Rat) (0:Rat) ((1:Int):Rat),hi),(ao,[116,111,112])).1,(T0,(((T3.mk (0:Rat) (0:Rat) ((1:Int):Rat),hi),(ao,[116,111,112])).2).2))]),((PP,(ba,([]:List En))).2).2)):=zK0 da gz;have ip:(tSd (k+l1+l2+5) (4*k+4*l1+4*l2+40) (100*k+100*l1+100*l2+1000) 1).R gr fe (prR L lo hi):=Rp.castR iq (by rw[jg,go,jh,jd];rfl);refine lX (xB gV pH ip) λvm or=>?_;refine jJ (vs:=[_]) I I I I call47 ⟨I,trivial⟩ (λw hs=>q8 hs or oM oM oM (by first|omega|exact hcd4 rr)) ?_;intro vl nc zq fc dq;obtain⟨se,ji,dq,rfl,jb,bw⟩:=dq
 change RL (tFc (4*(4*k+4*l1+4*l2+40)+12) ((4*k+4*l1+4*l2+40)+(100*k+100*l1+100*l2+1000)+12)) nc ji (nrF (prR L lo hi)) at bw
 replace dq:=Rp.Is.le dq (Le.p (Le.s (Le.t (Le.q (l:=k+l1+l2+6) oM))) (Le.p (Le.refl _) (Le.s (Le.p (Le.refl _) (Le.p (Le.refl _) (Le.q (l:=2) oM))))));replace bw:=(Le.p (Le.p (Le.t (Le.q (l:=16*k+16*l1+16*l2+172) oM)) (Le.q (l:=104*k+104*l1+104*l2+1052) oM)) (Le.refl _)).rl bw;replace bj:=bj.mono ((((((((((((((dw.trans el).trans dv).trans cg).trans bt).trans ar).trans cn).trans de).trans gk).trans jo).trans bu).trans ch).trans bq).trans ct).trans fc);have gw:=(Le.p (Le.s (Le.t (Le.q (l:=k+l1+l2+6) oM))) (Le.p (Le.refl _) (Le.s (Le.p (Le.refl _) (Le.p (Le.refl _) (Le.q (l:=2) dC)))))).R bj;refine yI (A:=[_,_,_,_,_,_,_,_]) (uB sizeOf39 pH gw dq) λsa io=>(asg (v:=vI (0)) I I (zX (zH (lJ ?_))));rw[rr,rq,uh];refine uJ (fV (t:=6) gV (.tail _ mh7) I io) ?_;intro sd gb il;refine gR (.cons_cons _ (List.nil_sublist _)) (λE S=>jN I gb (tM I) E S) ?_;exact⟨_,_,_,I,(Rp.Is.cast (Rp.Is.le il (Le.p (Le.s (Le.t (Le.q (l:=k+l1+l2+20) oM))) (Le.p (Le.refl _) (Le.s (Le.p (Le.refl _) (Le.p (Le.refl _) (Le.q (l:=5) dC))))))) (by rw[show nrE (prR L lo hi)=[] from by unfold nrE;split<;>rfl])),I,jb,((Le.p (Le.p (Le.t (Le.q (l:=1000*k+1000*l1+1000*l2+2000) oM)) (Le.q (l:=1000*k+1000*l1+1000*l2+2000) oM)) (Le.refl _)).rl bw)⟩
set_option maxHeartbeats 1000000 in
section
variable{w0:World}{h0:Mem}(hs:MLe h0 (mem w0))
include hs
theorem zTS{k l:Nat}{va:Value}{a:Tq}(ra:(tPt k).Is h0 va a){vb:Value}{b:Tq}(rb:(tPt l).Is h0 vb b)(hcd0:k<=5)(hcd1:l<=5)(hcd2:iU a b->blH a b):
 Calls Tryz.prog 15 #[va,vb] w0 (tP w0 h0 (λh r L_=>∃u0 vF cs,r=.tuple #[u0,vI (blE a b)]/\(rpP (tLs (2*k+2*l+40)) (rpP rpV (rpS (rpP rpI (rpP rpI (rpQ 6)))))).Is h u0 (blP a b,(vF,[]))/\L_=[.gs 53 14 vF (blF a b).length cs]/\vF.oneCell'=true/\RL (tFc (10000*k+10000*l+20000) (10000*k+10000*l+20000)) h cs (blF a b))):=by
 refine cb2 102 va vb func15 hs ?_;refine go2 ?_;refine nB ra λb2 ck an=>(nB rb λb3 cj am=>(nA (ρ:=(rpP (tLs 1) (rpP rpV (rpS (rpP rpI (rpP rpI (rpQ 1))))))) (X:=([],((Value.slice none 0 0),[]))) gB (yF vC (yF rO vC)) λb4 ci cd=>(uK ?_)));refine gcL (ι:=Nat×Mem) (λ(i,ma)=>(MLe h0 ma/\(i<=3/\∀u,u<i->¬0<=xS (a.at u) (b.at u)),[(2,vP b2 0),(3,vP b3 0),(4,vP b4 0),(6,vI ↑i)],[.var b4 39 ci,.var b3 31 cj,.var b2 31 ck],ma,3-i)) (0,h0) ?_ ?_
 · exact⟨mle,by omega,λu h=>by omega⟩
 rintro⟨i,ma⟩ ⟨dy,fj,hi2⟩
 refine xC ?_;refine gc7 (λch=>?_) λch=>?_
 ·
  refine go5 ?_;refine zJ 8 _ [] [(0,.q),(1,.q),(2,.q),(3,.q),(4,.q),(5,.q),(6,.c),(7,.q)] yA nX zor nX (λr hr=>hr) (go1 ?_);refine wC I (λ_ _=>(yG (sz:=3) i underlying31 sizeOf29 I I I oM).cv (show _=vP b2 ((i*3+0)) from congrArg (vP b2) oM)) I (wX I (xB yD (Pc.ta pH i oM) an) λfe dp=>(go1 ?_));refine wC I (λ_ _=>(yG (sz:=3) i underlying31 sizeOf29 I I I oM).cv (show _=vP b3 ((i*3+0)) from congrArg (vP b3) oM)) I (wX I (xB yD (Pc.ta pH i oM) am) λfd dn=>?_);refine w_c I (sC (ev2 I I) call17 (λw hs=>fZ hs dp dn oM) λcm h1 dr dm=>?_);obtain rfl:cm=vI (xS (a.at i) (b.at i)):=dm;have dt:=qV (a.at i) (b.at i);refine gc3 (λar=>?_) λar=>?_
  ·
   refine go2 ?_;refine lX (xV (ρ:=(rpP (tLs 1) (rpP rpV (rpS (rpP rpI (rpP rpI (rpQ 1))))))) (wE (ps':=[]) underlying39 gB I I (pV underlying39) trivial I (yF vC (yF rO vC)) zR)) λfc dl=>(yI (A:=[]) (uB sizeOf39 pH cd dl) λdz cc=>(go9 ?_));obtain⟨e1,e2,e3⟩:=bl_9 (a:=a) (b:=b) (λe=>e i oM ar);rw[e1,e2,e3];refine aR 53 14 ?_;have bz:=RL.nil (ρ:=rpP (tPl (10000*k+10000*l+20000) (10000*k+10000*l+20000)) (rpP tII kR)) (h:=h1);refine uJ (fV (t:=4) gV mh1 I cc) ?_;intro ed bk bx;refine gR (.cons_cons _ (List.nil_sublist _)) (λE S=>jN I bk (tM I) E S) ?_;exact⟨_,_,_,I,(Rp.Is.le bx (Le.p (Le.s (Le.t (Le.q (l:=2*k+2*l+40) oM))) (Le.p (Le.refl _) (Le.s (Le.p (Le.refl _) (Le.p (Le.refl _) (Le.q (l:=6) dC))))))),I,I,bz⟩
  refine go8 ?_;refine gqL ((i+1),h1) ?_ ?_
  · exact⟨mle,by omega,vH (Q:=λu=>¬0<=xS (a.at u) (b.at u)) hi2 ar⟩
  omega
 have ce:iU a b:=λu hu=>hi2 u oM;have ao:=hcd2 ce;have fo:=yBN ao.2.1;refine go8 ?_;refine lX (xB yD (Pc.tx pH) an) λfb dk=>(go1 ?_);refine lX (xB yD (Pc.ty pH) an) λfa dj=>(lX (xV (ρ:=(tPt (k+1))) (wJ (ps':=[(0,_),(1,_)]) underlying31 yU I I sizeOf29 e4z I (xW (yN oM)) (zG I (Pc.tx (Pc.here _)) (dk.le (Le.q (l:=k+1) oM)) (zG I (Pc.ty (Pc.here _)) (dj.le (Le.q (l:=k+1) oM)) zR)))) λez di=>(go1 ?_));refine lX (xB yD (Pc.tx pH) am) λey dh=>(go1 ?_);refine lX (xB yD (Pc.ty pH) an) λew df=>(lX (xV (ρ:=(tPt (k+l+1))) (wJ (ps':=[(0,_),(1,_)]) underlying31 yU I I sizeOf29 e4z I (xW (yN oM)) (zG I (Pc.tx (Pc.here _)) (dh.le (Le.q (l:=k+l+1) oM)) (zG I (Pc.ty (Pc.here _)) (df.le (Le.q (l:=k+l+1) oM)) zR)))) λev de=>(go1 ?_));refine lX (xB yD (Pc.tx pH) am) λeu dd=>(go1 ?_);refine lX (xB yD (Pc.ty pH) am) λes dc=>(lX (xV (ρ:=(tPt (l+1))) (wJ (ps':=[(0,_),(1,_)]) underlying31 yU I I sizeOf29 e4z I (xW (yN oM)) (zG I (Pc.tx (Pc.here _)) (dd.le (Le.q (l:=l+1) oM)) (zG I (Pc.ty (Pc.here _)) (dc.le (Le.q (l:=l+1) oM)) zR)))) λer db=>(go1 ?_));refine lX (xB yD (Pc.tx pH) an) λeq da=>(go1 ?_);refine lX (xB yD (Pc.ty pH) am) λep cz=>(lX (xV (ρ:=(tPt (k+l+1))) (wJ (ps':=[(0,_),(1,_)]) underlying31 yU I I sizeOf29 e4z I (xW (yN oM)) (zG I (Pc.tx (Pc.here _)) (da.le (Le.q (l:=k+l+1) oM)) (zG I (Pc.ty (Pc.here _)) (cz.le (Le.q (l:=k+l+1) oM)) zR)))) λeo cy=>(zK (zO (ρ:=(tPt (k+l+1))) (m:=4) (xs:=[(zZ a),(T3.mk b.x a.y (0:Rat)),(zZ b),(T3.mk a.x b.y (0:Rat))]) (ps':=[(0,_),(1,_),(2,_),(3,_)]) underlying35 yU I I I (xW (yN oM)) e8 (zG I (Pc.arr (Pc.here _) zT 0 dC) (di.le (Le.t (Le.q (l:=k+l+1) oM))) (zG I (Pc.arr (Pc.here _) zT 1 dC) de (zG I (Pc.arr (Pc.here _) zT 2 dC) (db.le (Le.t (Le.q (l:=k+l+1) oM))) (zG I (Pc.arr (Pc.here _) zT 3 dC) cy zR)))) (show 4*9<=16777216 from by decide) nP) I I I ?_))
 rintro en fh ⟨eb,rfl,cb⟩
 refine yC (A:=[]) (ρ:=(tPt (k+l+1))) cb ?_;intro h1 dr bw;refine zK (zO (ρ:=(tLs (k+l+1))) (m:=1) (xs:=[[(zZ a),(T3.mk b.x a.y (0:Rat)),(zZ b),(T3.mk a.x b.y (0:Rat))]]) (ps':=[(0,_)]) underlying76 iO I I I vC e2z (zG I (Pc.arr (Pc.here _) [] 0 dC) bw zR) zoj nP) I I I ?_
 rintro em fg ⟨ea,rfl,ca⟩
 refine go1 ?_;refine lX (xB yD (Pc.tz pH) an) λel cw=>(go1 ?_);refine lX (xB yD (Pc.tz pH) am) λek cu=>(yC (A:=[]) (ρ:=(tLs (k+l+1))) ca ?_);intro h2 fm bv;refine jJ (vs:=[_,_,_]) I I I I call46 e3z (λw hs=>zTO hs bv cw.up cu.up oM oM oM (by first|omega|exact ao.1|exact ao.2.1) (by first|omega|exact ao.1|exact ao.2.1)) ?_;intro ej h3 fr fl ap;obtain⟨ff,bu,av,rfl,ap,rfl,cf,ae⟩:=ap
 change RL (tFc (1000*(k+l+1)+1000*k+1000*l+2000) (1000*(k+l+1)+1000*k+1000*l+2000)) h3 av (prF [[(zZ a),(T3.mk b.x a.y (0:Rat)),(zZ b),(T3.mk a.x b.y (0:Rat))]] a.z b.z) at ae
 replace ap:=Rp.Is.le ap (Le.p (Le.s (Le.t (Le.q (l:=2*k+2*l+21) oM))) (Le.refl _));replace ae:=(Le.p (Le.p (Le.t (Le.q (l:=2000*k+2000*l+3000) oM)) (Le.q (l:=2000*k+2000*l+3000) oM)) (Le.refl _)).rl ae;refine go3 ?_;refine nA (ρ:=(rpP (tLs 1) (rpP rpV (rpS (rpP rpI (rpP rpI (rpQ 1))))))) (X:=([],((Value.slice none 0 0),[]))) gB (yF vC (yF rO vC)) λb7 fq cn=>?_;have ax:=(Le.p (Le.s (Le.t (Le.q (l:=2*k+2*l+21) oM))) (Le.p (Le.refl _) (Le.s (Le.p (Le.refl _) (Le.p (Le.refl _) (Le.q (l:=5) dC)))))).R cn;refine yI (A:=[]) (uB sizeOf39 pH ax ap) λbt bj=>(uK ?_);refine gcL (ι:=Nat×List Fc×List Value×Value×List Value×Mem) (λ(i,M,J,C,ah,mb)=>(MLe h3 mb/\((rpP (tLs (2*k+2*l+30)) (rpP rpV (rpS (rpP rpI (rpP rpI (rpQ 5)))))).R mb J (prP (blL a b) a.z b.z,(C,([]:List En)))/\RL (tFc (2000*k+2000*l+3000) (2000*k+2000*l+3000)) mb ah M/\C.oneCell'=true/\i<=(prF (blL a b) a.z b.z).length/\M=eW rnF zA (prF (blL a b) a.z b.z) i),[(4,vP b4 0),(7,vP b7 0),(8,vI (prE [[(zZ a),(T3.mk b.x a.y (0:Rat)),(zZ b),(T3.mk a.x b.y (0:Rat))]] a.z b.z)),(9,vI ↑i)],[.var b7 39 J,.gs 53 14 C M.length ah,.var b4 39 ci,.var b3 31 cj,.var b2 31 ck],mb,(prF (blL a b) a.z b.z).length-i)) (0,(prF (blL a b) a.z b.z),bt,bu,av,h3) ?_ ?_
 · exact⟨mle,((Le.p (Le.s (Le.t (Le.q (l:=2*k+2*l+30) oM))) (Le.refl _)).R bj),ae,cf,by omega,I⟩
 rintro⟨i,M,J,C,ah,mb⟩ ⟨dx,H,D,O,fi,aa⟩
 refine xC ?_;have fp:M.length=(prF (blL a b) a.z b.z).length:=by rw[aa];exact iY _ _ _ _
 refine go5 ?_;refine lX (aA (xB fQ (Pc.snd (Pc.fst pH)) H)) λeh ct=>?_;subst ct;refine gv (kL mh1 underlying36 I) I (gc3 (λcg=>?_) λcg=>?_)
 ·
  refine go7 ?_;refine lX (aA (xB fQ (Pc.snd (Pc.fst pH)) H)) λeg cq=>?_;subst cq;refine go1 ?_;refine gv ((xN i mh1 underlying36 sizeOf53 I I I bO nP).cv (show _=zM 1 C ((i*14+0)) from congrArg (zM 1 C) zo0)) I (go6 ?_);refine gv (rS (Pc.arr (Pc.here _) zA i bO) I nP D mh1 I) I (gv ((fW (Pc.arr (Pc.here _) zA i bO) I nP D mh1 underlying53 I sizeOf9 I).cv (show _=zM 1 C ((i*14+13)) from congrArg (zM 1 C) (by show(i*14+0)+13=(i*14+13);omega))) I (zKE (F:=λv_=>kR.Is mb v_ (((M.getD i zA).2).2)) (wZ ty9 (Pc.arr (Pc.snd (Pc.snd (Pc.here _))) zA i bO) I nP I D I) (sS mh1) I ?_));intro ef cp;obtain⟨rfl,ac⟩:=kF cp;refine go5 ?_;refine gv (mN (pa:=(((M.getD i zA).2).2)) (pb:=([98,111,116,116,111,109]:List Nat)) ac (show ByB [98,111,116,116,111,109] by unfold ByB;decide) I I) I (gc3 (λU=>?_) λU=>?_)
  ·
   refine go2 ?_;refine gv (rS (Pc.arr (Pc.here _) zA i bO) I nP D mh1 I) I (gv ((fW (Pc.arr (Pc.here _) zA i bO) I nP D mh1 underlying53 I sizeOf9 I).cv (show _=zM 1 C ((i*14+13)) from congrArg (zM 1 C) (by show(i*14+0)+13=(i*14+13);omega))) I (fK (A:=[_]) (F:=λc_=>RL (tFc (2000*k+2000*l+3000) (2000*k+2000*l+3000)) mb c_ (M.set i ((M.getD i zA).1,(((M.getD i zA).2).1,([122,48]:List Nat))))) (cS sizeOf9 (Pc.arr (Pc.snd (Pc.snd (Pc.here _))) zA i bO) I nP I I D (cZ (show ByB [122,48] by unfold ByB;decide)) I) ?_));intro bs bf;refine go9 ?_;refine gqL ((i+1),(M.set i ((M.getD i zA).1,(((M.getD i zA).2).1,([122,48]:List Nat)))),J,C,bs,mb) ?_ ?_
   · exact⟨mle,H,bf,O,by omega,zNX aa (by unfold rnN;rw[if_pos U])⟩
   omega
  refine go2 ?_;refine gv (mN (pa:=(((M.getD i zA).2).2)) (pb:=([116,111,112]:List Nat)) ac (show ByB [116,111,112] by unfold ByB;decide) I I) I (gc3 (λZ=>?_) λZ=>?_)
  ·
   refine go2 ?_;refine gv (rS (Pc.arr (Pc.here _) zA i bO) I nP D mh1 I) I (gv ((fW (Pc.arr (Pc.here _) zA i bO) I nP D mh1 underlying53 I sizeOf9 I).cv (show _=zM 1 C ((i*14+13)) from congrArg (zM 1 C) (by show(i*14+0)+13=(i*14+13);omega))) I (fK (A:=[_]) (F:=λc_=>RL (tFc (2000*k+2000*l+3000) (2000*k+2000*l+3000)) mb c_ (M.set i ((M.getD i zA).1,(((M.getD i zA).2).1,([122,49]:List Nat))))) (cS sizeOf9 (Pc.arr (Pc.snd (Pc.snd (Pc.here _))) zA i bO) I nP I I D (cZ (show ByB [122,49] by unfold ByB;decide)) I) ?_));intro br be;refine go9 ?_;refine gqL ((i+1),(M.set i ((M.getD i zA).1,(((M.getD i zA).2).1,([122,49]:List Nat)))),J,C,br,mb) ?_ ?_
   · exact⟨mle,H,be,O,by omega,zNX aa (by unfold rnN;rw[if_neg U,if_pos Z])⟩
   omega
  refine go2 ?_;refine gv (mN (pa:=(((M.getD i zA).2).2)) (pb:=([115,48,46,48]:List Nat)) ac (show ByB [115,48,46,48] by unfold ByB;decide) I I) I (gc3 (λab=>?_) λab=>?_)
  ·
   refine go2 ?_;refine gv (rS (Pc.arr (Pc.here _) zA i bO) I nP D mh1 I) I (gv ((fW (Pc.arr (Pc.here _) zA i bO) I nP D mh1 underlying53 I sizeOf9 I).cv (show _=zM 1 C ((i*14+13)) from congrArg (zM 1 C) (by show(i*14+0)+13=(i*14+13);omega))) I (fK (A:=[_]) (F:=λc_=>RL (tFc (2000*k+2000*l+3000) (2000*k+2000*l+3000)) mb c_ (M.set i ((M.getD i zA).1,(((M.getD i zA).2).1,([121,48]:List Nat))))) (cS sizeOf9 (Pc.arr (Pc.snd (Pc.snd (Pc.here _))) zA i bO) I nP I I D (cZ (show ByB [121,48] by unfold ByB;decide)) I) ?_));intro bq bd;refine go9 ?_;refine gqL ((i+1),(M.set i ((M.getD i zA).1,(((M.getD i zA).2).1,([121,48]:List Nat)))),J,C,bq,mb) ?_ ?_
   · exact⟨mle,H,bd,O,by omega,zNX aa (by unfold rnN;rw[if_neg U,if_neg Z,if_pos ab])⟩
   omega
  refine go2 ?_;refine gv (mN (pa:=(((M.getD i zA).2).2)) (pb:=([115,48,46,49]:List Nat)) ac (show ByB [115,48,46,49] by unfold ByB;decide) I I) I (gc3 (λaj=>?_) λaj=>?_)
  ·
   refine go2 ?_;refine gv (rS (Pc.arr (Pc.here _) zA i bO) I nP D mh1 I) I (gv ((fW (Pc.arr (Pc.here _) zA i bO) I nP D mh1 underlying53 I sizeOf9 I).cv (show _=zM 1 C ((i*14+13)) from congrArg (zM 1 C) (by show(i*14+0)+13=(i*14+13);omega))) I (fK (A:=[_]) (F:=λc_=>RL (tFc (2000*k+2000*l+3000) (2000*k+2000*l+3000)) mb c_ (M.set i ((M.getD i zA).1,(((M.getD i zA).2).1,([120,49]:List Nat))))) (cS sizeOf9 (Pc.arr (Pc.snd (Pc.snd (Pc.here _))) zA i bO) I nP I I D (cZ (show ByB [120,49] by unfold ByB;decide)) I) ?_));intro bp bc;refine go9 ?_;refine gqL ((i+1),(M.set i ((M.getD i zA).1,(((M.getD i zA).2).1,([120,49]:List Nat)))),J,C,bp,mb) ?_ ?_
   · exact⟨mle,H,bc,O,by omega,zNX aa (by unfold rnN;rw[if_neg U,if_neg Z,if_neg ab,if_pos aj])⟩
   omega
  refine go2 ?_;refine gv (mN (pa:=(((M.getD i zA).2).2)) (pb:=([115,48,46,50]:List Nat)) ac (show ByB [115,48,46,50] by unfold ByB;decide) I I) I (gc3 (λak=>?_) λak=>?_)
  ·
   refine go2 ?_;refine gv (rS (Pc.arr (Pc.here _) zA i bO) I nP D mh1 I) I (gv ((fW (Pc.arr (Pc.here _) zA i bO) I nP D mh1 underlying53 I sizeOf9 I).cv (show _=zM 1 C ((i*14+13)) from congrArg (zM 1 C) (by show(i*14+0)+13=(i*14+13);omega))) I (fK (A:=[_]) (F:=λc_=>RL (tFc (2000*k+2000*l+3000) (2000*k+2000*l+3000)) mb c_ (M.set i ((M.getD i zA).1,(((M.getD i zA).2).1,([121,49]:List Nat))))) (cS sizeOf9 (Pc.arr (Pc.snd (Pc.snd (Pc.here _))) zA i bO) I nP I I D (cZ (show ByB [121,49] by unfold ByB;decide)) I) ?_));intro bo bb;refine go9 ?_;refine gqL ((i+1),(M.set i ((M.getD i zA).1,(((M.getD i zA).2).1,([121,49]:List Nat)))),J,C,bo,mb) ?_ ?_
   · exact⟨mle,H,bb,O,by omega,zNX aa (by unfold rnN;rw[if_neg U,if_neg Z,if_neg ab,if_neg aj,if_pos ak])⟩
   omega
  refine go2 ?_;refine gv (mN (pa:=(((M.getD i zA).2).2)) (pb:=([115,48,46,51]:List Nat)) ac (show ByB [115,48,46,51] by unfold ByB;decide) I I) I (gc3 (λaq=>?_) λaq=>?_)
  ·
   refine go2 ?_;refine gv (rS (Pc.arr (Pc.here _) zA i bO) I nP D mh1 I) I (gv ((fW (Pc.arr (Pc.here _) zA i bO) I nP D mh1 underlying53 I sizeOf9 I).cv (show _=zM 1 C ((i*14+13)) from congrArg (zM 1 C) (by show(i*14+0)+13=(i*14+13);omega))) I (fK (A:=[_]) (F:=λc_=>RL (tFc (2000*k+2000*l+3000) (2000*k+2000*l+3000)) mb c_ (M.set i ((M.getD i zA).1,(((M.getD i zA).2).1,([120,48]:List Nat))))) (cS sizeOf9 (Pc.arr (Pc.snd (Pc.snd (Pc.here _))) zA i bO) I nP I I D (cZ (show ByB [120,48] by unfold ByB;decide)) I) ?_));intro bn ba;refine go9 ?_;refine gqL ((i+1),(M.set i ((M.getD i zA).1,(((M.getD i zA).2).1,([120,48]:List Nat)))),J,C,bn,mb) ?_ ?_
   · exact⟨mle,H,ba,O,by omega,zNX aa (by unfold rnN;rw[if_neg U,if_neg Z,if_neg ab,if_neg aj,if_neg ak,if_pos aq])⟩
   omega
  refine go9 ?_;refine gqL ((i+1),M,J,C,ah,mb) ?_ ?_
  · exact⟨mle,H,D,O,by omega,yJX aa (by unfold rnN;rw[if_neg U,if_neg Z,if_neg ab,if_neg aj,if_neg ak,if_neg aq]) oM⟩
  omega
 have ei:i=(prF (blL a b) a.z b.z).length:=by omega
 rw[ei] at aa;refine go7 ?_;refine yC (A:=[_]) (ρ:=(tFc (2000*k+2000*l+3000) (2000*k+2000*l+3000))) D ?_;intro h4 dq ay;replace H:=H.mono dq;have bi:(tSd (2*k+2*l+30) (2000*k+2000*l+3000) (2000*k+2000*l+3000) 5).R h4 J ((prP (blL a b) a.z b.z,(C,([]:List En))).1,(M,((prP (blL a b) a.z b.z,(C,([]:List En))).2).2)):=zK0 H ay;have bh:(tSd (2*k+2*l+30) (2000*k+2000*l+3000) (2000*k+2000*l+3000) 5).R h4 J (blS a b):=Rp.castR bi (by rw[aa];rfl);refine lX (xB gV pH bh) λee co=>?_;refine jJ (vs:=[_]) I I I I call47 ⟨I,trivial⟩ (λw hs=>q8 hs co oM oM oM (by first|omega|exact ao.2.2)) ?_;intro dw h5 ec fk ai;obtain⟨cl,bm,ai,rfl,bl,ad⟩:=ai
 change RL (tFc (4*(2000*k+2000*l+3000)+12) ((2000*k+2000*l+3000)+(2000*k+2000*l+3000)+12)) h5 bm (nrF (blS a b)) at ad
 replace ai:=Rp.Is.le ai (Le.p (Le.s (Le.t (Le.q (l:=2*k+2*l+31) oM))) (Le.p (Le.refl _) (Le.s (Le.p (Le.refl _) (Le.p (Le.refl _) (Le.q (l:=6) oM))))));replace ad:=(Le.p (Le.p (Le.t (Le.q (l:=8000*k+8000*l+12012) oM)) (Le.q (l:=4000*k+4000*l+6012) oM)) (Le.refl _)).rl ad;refine go1 ?_;have aw:=(Le.p (Le.s (Le.t (Le.q (l:=2*k+2*l+31) oM))) (Le.p (Le.refl _) (Le.s (Le.p (Le.refl _) (Le.p (Le.refl _) (Le.q (l:=6) dC)))))).R cd;refine yI (A:=[_,_]) (uB sizeOf39 pH aw ai) λdu bg=>(go4 ?_);obtain⟨e1,e2,e3⟩:=yC6 ce;rw[e1,e2,e3];refine uJ (fV (t:=4) gV mh2 I bg) ?_;intro dv au az;refine gR (.cons_cons _ (List.nil_sublist _)) (λE S=>jN I au (tM I) E S) ?_;exact⟨_,_,_,I,(Rp.Is.cast (Rp.Is.le az (Le.p (Le.s (Le.t (Le.q (l:=2*k+2*l+40) oM))) (Le.refl _))) (by rw[show nrE (blS a b)=[] from by unfold nrE;split<;>rfl])),I,bl,((Le.p (Le.p (Le.t (Le.q (l:=10000*k+10000*l+20000) oM)) (Le.q (l:=10000*k+10000*l+20000) oM)) (Le.refl _)).rl ad)⟩
theorem zB5{m l k:Nat}{vs:Value}{s:Pq}(rs:(tPl m l).Is h0 vs s){vp:Value}{p:Tq}(rp:(tPt k).Is h0 vp p)(hcd0:k<=100000000)(hcd1:l<=100000000)(hcd2:m<=100000000):
 Calls Tryz.prog 23 #[vs,vp] w0 (Ret w0 h0 (λ_ r=>r=vI (sdZ s p))):=by
 refine cb2 13 vs vp func23 hs ?_;refine go2 ?_;refine nB rs λb2 ai D=>(nB rp λb3 ah J=>(go4 ?_));refine zJ 9 _ [] [(0,.q),(1,.q),(2,.q),(4,.q),(5,.q),(3,.c),(6,.c),(7,.c),(8,.q)] yA nX zor nX (λr hr=>hr) (go1 ?_);refine wX I (xB zL (Pc.fst pH) D) λv6 r6=>(wX I (xB zL pH J) λv7 r7=>(go1 ?_));refine wX I (xB yD (Pc.snd pH) D) λab U=>?_;refine w_c I (sC (ev2 I I) call56 (λw hs=>lF hs r6 r7 oM) λv8 h1 ae M=>?_);replace M:=Rp.Is.le M (Le.q (l:=3*k+3*m+9) oM);refine w_c I (sC (ev2 I I) call55 (λw hs=>fY hs M U.up oM) λaa h2 ad C=>?_);replace C:=Rp.Is.le C (Le.q (l:=3*k+l+3*m+10) oM);refine w_c I (sC (ev1 I) call48 (λw hs=>qC hs C oM) λH h3 ac O=>?_);obtain rfl:H=vI (yV ((zE s.1 p)-s.2)):=O;have Z:=xG ((zE s.1 p)-s.2);refine go4 ?_;refine zC I I ?_
 rfl
theorem zAQ{k:Nat}{va:Value}{a:Tq}(ra:(tPt k).Is h0 va a){vb:Value}{b:Tq}(rb:(tPt k).Is h0 vb b){vc:Value}{c:Tq}(rc:(tPt k).Is h0 vc c)(hcd0:k<=100000):
 Calls Tryz.prog 93 #[va,vb,vc] w0 (Ret w0 h0 (λh r=>∃u0,r=.tuple #[u0,vI (thE a b c)]/\(tPl (50*k+200) (200*k+900)).Is h u0 (thZ a b c))):=by
 refine cb3 24 va vb vc func93 hs ?_;refine go2 ?_;refine nB ra λb3 cc O=>(nB rb λb4 cb ao=>(nB rc λb5 ca an=>(nA (ρ:=(tPl 1 1)) (X:=(zT,(0:Rat))) sU (yF (xW (yN dC)) (yN dC)) λb6 bz aj=>(go4 ?_))));refine zJ 8 _ [(7,(8,31,[.bool false,.slice none 0 0,.slice none 0 0,.bool false,.slice none 0 0,.slice none 0 0,.bool false,.slice none 0 0,.slice none 0 0]))] [(0,.q),(1,.q),(3,.q),(4,.q),(2,.c),(5,.c),(6,.c),(7,.a),(8,.t)] yA (jS.cons I I (qA yU I I) jS.nil) zor (qD I I kW) (λr hr=>hr) (wX I (xB zL pH ao) λv9 r9=>(wX I (xB zL pH O) λbs ba=>(wX I (xB zL pH an) λbq az=>(wX I (xB zL pH O) λbp ay=>?_))));refine w_c I (sC (ev2 I I) call22 (λw hs=>iI hs r9 ba oM) λbr h1 bx ab=>?_);replace ab:=Rp.Is.le ab (Le.t (Le.q (l:=2*k+1) oM));refine w_c I (sC (ev2 I I) call22 (λw hs=>iI hs az.up ay.up oM) λbo h2 bw aa=>?_);replace aa:=Rp.Is.le aa (Le.t (Le.q (l:=2*k+1) oM));refine w_c I (sC (ev2 I I) call102 (λw hs=>zFJ hs ab.up aa oM) λbn h3 bv Z=>?_);replace Z:=Rp.Is.le Z (Le.t (Le.q (l:=8*k+7) oM));refine w_a I I (λb8=>?_);have am:(tPt 1).R h3 [.bool false,.slice none 0 0,.slice none 0 0,.bool false,.slice none 0 0,.slice none 0 0,.bool false,.slice none 0 0,.slice none 0 0] zT:=(xW (yN dC));have ae:=(Le.t (Le.q (l:=8*k+7) oM)).R am;refine yK (A:=[]) I (uB sizeOf31 pH ae Z) λbe D=>(go5 ?_);refine lX (xB zL pH D) λbm ax=>(cL (ev1 I) call80 (λw hs=>zB7 hs ax oM) λak h4 bu aw=>?_);obtain rfl:ak=vB ((zY (T3.mk (b.x-a.x) (b.y-a.y) (b.z-a.z)) (T3.mk (c.x-a.x) (c.y-a.y) (c.z-a.z)))=zT):=aw;refine gc2 (λC=>?_) λC=>?_
 ·
  refine go2 ?_;refine lX (xV (ρ:=(tPl 1 1)) (wE (ps':=[]) underlying50 sU I I (sY underlying50) trivial I (yF (xW (yN dC)) (yN dC)) zR)) λbl av=>(yI (A:=[_]) (uB sizeOf50 pH aj av) λbd ai=>(go5 ?_));refine uJ (fV (t:=6) aV mh1 I ai) ?_;intro bf ac ah;refine yW (λE S=>jN I ac (tM I) E S) ?_;refine⟨_,?_,(Rp.Is.cast (Rp.Is.le ah (Le.p (Le.t (Le.q (l:=50*k+200) oM)) (Le.q (l:=200*k+900) oM))) (by obtain⟨e1,e2⟩:=yJ5 C;rw[e1]))⟩;obtain⟨e1,e2⟩:=yJ5 C;rw[e2]
 refine go3 ?_;refine zJ 5 _ [] [(0,.q),(1,.q),(2,.q),(3,.c),(4,.q),(5,.t),(6,.t)] yA nX zor nX (λr hr=>hr) (wX I (xB zL pH D) λbk au=>(wX I (xB zL pH D) λbj ar=>(wX I (xB zL pH O) λbi aq=>?_)));refine w_c I (sC (ev2 I I) call56 (λw hs=>lF hs ar aq oM) λbh h5 bt U=>?_);replace U:=Rp.Is.le U (Le.q (l:=27*k+30) oM);refine wX I (xV (ρ:=(tPl (8*k+7) (27*k+30))) (wE (ps':=[(0,_),(1,_)]) underlying50 sU I I (sY underlying50) e4z I (yF (xW (yN oM)) (yN oM)) (zG I (Pc.fst (Pc.here _)) au.up (zG I (Pc.snd (Pc.here _)) U zR)))) λbg ap=>?_;have ad:=(Le.p (Le.t (Le.q (l:=8*k+7) oM)) (Le.q (l:=27*k+30) oM)).R aj;refine yK (A:=[_]) I (uB sizeOf50 pH ad ap) λbc M=>(zDQ I (pK (v:=vI (0)) I) I (go3 ?_));refine uJ (fV (t:=6) aV mh1 I M) ?_;intro bb H J;refine yW (λE S=>jN I H (tM I) E S) ?_;refine⟨_,?_,(Rp.Is.cast (Rp.Is.le J (Le.p (Le.t (Le.q (l:=50*k+200) oM)) (Le.q (l:=200*k+900) oM))) (by obtain⟨e1,e2⟩:=zVA C;rw[e1];rfl))⟩;obtain⟨e1,e2⟩:=zVA C;rw[e2]
theorem zAR{m l:Nat}{vpl:Value}{pl:Pq}(rpl:(tPl m l).Is h0 vpl pl)(hcd0:m<=1000000)(hcd1:l<=1000000):
 Calls Tryz.prog 76 #[vpl] w0 (Ret w0 h0 (λh r=>(tPl (3*m+10) (l+1)).Is h r (opP pl))):=by
 refine cb1 11 vpl func76 hs ?_;refine go2 ?_;refine nB rpl λb1 ai M=>(nA (ρ:=(tPl 1 1)) (X:=(zT,(0:Rat))) sU (yF (xW (yN dC)) (yN dC)) λb2 ah O=>(go3 ?_));refine zJ 8 _ [] [(1,.q),(2,.q),(4,.q),(5,.q),(0,.c),(3,.c),(6,.c),(7,.q),(8,.t)] yA nX zor nX (λr hr=>hr) (go1 ?_);refine wX I (xB zL (Pc.fst pH) M) λv5 r5=>(go1 ?_);refine wX I (xB yD (Pc.snd pH) M) λv8 r8=>?_;refine w_c I (sC (vs:=[vI (-1)]) ⟨I,trivial⟩ call27 (λw hs=>rU hs dC dC) λv3 h1 ae r3=>?_);refine w_c I (sC (ev2 I I) call20 (λw hs=>u9 hs r3 r5.up oM) λv6 h2 ad r6=>?_);refine w_c I (sC (ev1 I) call87 (λw hs=>oJ hs r8.up oM) λv9 h3 ac r9=>(wX I (xV (ρ:=(tPl (m+2) (l+1))) (wE (ps':=[(0,_),(1,_)]) underlying50 sU I I (sY underlying50) e4z I (yF (xW (yN oM)) (yN oM)) (zG I (Pc.fst (Pc.here _)) r6.up (zG I (Pc.snd (Pc.here _)) (r9.le (Le.q (l:=l+1) oM)) zR)))) λab U=>?_));have D:=(Le.p (Le.t (Le.q (l:=m+2) oM)) (Le.q (l:=l+1) oM)).R O;refine yK (A:=[]) I (uB sizeOf50 pH D U) λZ J=>(go3 ?_);refine uJ (fV (t:=2) aV mh0 I J) ?_;intro aa C H;refine yW (λE S=>yE I C E S) ?_;exact(Rp.Is.le H (Le.p (Le.t (Le.q (l:=3*m+10) oM)) (Le.refl _)))
end
end Go.Proofs.YtpkaegemlpaenaaGreat
namespace Bk
open Classical
noncomputable abbrev lp2(pl:Pl)(l:List Pt):Nat->P2:=λm=>pt2 pl (gp l m)
def upr(pl:Pl)(a b:Pt):Pl:=(zY (yO b a) pl.1,zE (zY (yO b a) pl.1) a)
def inP(pl:Pl)(l:List Pt)(p:Pt):Prop:=(∀m,m<l.length->¬0<sdZ (upr pl (gp l m) (nx l m)) p)/\0<l.length
noncomputable def afC(pl c:Pl):Rat×Rat×Rat:=
 (c.1.at (axK pl.1)/pl.1.at (axK pl.1)*pl.2-c.2,c.1.at (axI pl.1)-c.1.at (axK pl.1)/pl.1.at (axK pl.1)*pl.1.at (axI pl.1),c.1.at (axJ pl.1)-c.1.at (axK pl.1)/pl.1.at (axK pl.1)*pl.1.at (axJ pl.1))
def ngP(c:Pl):Pl:=(T3.mk (-c.1.x) (-c.1.y) (-c.1.z),-c.2)
def yAU(l:List Pt):Nat->Pt
  |0=>zT
  |m+1=>xZ (yAU l m) (gp l m)
noncomputable def cenZ(l:List Pt):Pt:=if l.length=0 then zT else T3.mk (uR 1 ↑l.length*(yAU l l.length).x) (uR 1 ↑l.length*(yAU l l.length).y) (uR 1 ↑l.length*(yAU l l.length).z)
def zT8(c:Pl)(l:List Pt):Nat->Rat
  |0=>0
  |m+1=>zT8 c l m+hgt c (gp l m)
theorem zY9{pl:Pl}{a b c:Pt}(hn:¬pl.1=zT)(ha:sdZ pl a=0)(hb:sdZ pl b=0)(hc:sdZ pl c=0):yV (yB (yO b a) (yO c a) pl.1)<=0↔¬0<orZ (pt2 pl a) (pt2 pl b) (pt2 pl c):=by
 rw[<-yIR hn ha hb hc,yIS];omega
end Bk
namespace Go.Proofs.YtpkaegemlpaenaaGreat
open Bk Go Tryz
set_option maxRecDepth 10000
set_option maxHeartbeats 1000000
attribute [local irreducible] GL GC GQ W OpV
theorem zXA{w0:World}{h0:Mem}(hs:MLe h0 (mem w0)){k l m:Nat}{va:Value}{a:Tq}(ra:(tPt k).Is h0 va a){vb:Value}{b:Tq}(rb:(tPt l).Is h0 vb b){vc:Value}{c:Tq}(rc:(tPt m).Is h0 vc c)(hcd0:k<=100000000)(hcd1:l<=100000000)(hcd2:m<=100000000):
 Calls Tryz.prog 98 #[va,vb,vc] w0 (Ret w0 h0 (λh r=>(rpQ (3*k+6*l+6*m+18)).Is h r (yB a b c))):=by
 refine cb3 12 va vb vc func98 hs ?_;refine go2 ?_;refine nB ra λb3 ao aa=>(nB rb λb4 an Z=>(nB rc λb5 am U=>(nA (ρ:=(rpQ 1)) (X:=(0:Rat)) wB (yN dC) λb6 ak O=>(go3 ?_))));refine zJ 5 _ [] [(0,.q),(1,.q),(2,.q),(3,.c),(4,.c),(5,.t)] yA nX zor nX (λr hr=>hr) (wX I (xB zL pH aa) λv7 r7=>(wX I (xB zL pH Z) λv8 r8=>(wX I (xB zL pH U) λv9 r9=>?_)));refine w_c I (sC (ev2 I I) call102 (λw hs=>zFJ hs r8 r9 oM) λah h1 aj ab=>?_);refine w_c I (sC (ev2 I I) call56 (λw hs=>lF hs r7.up ab oM) λae h2 ai C=>?_);replace C:=Rp.Is.le C (Le.q (l:=3*k+6*l+6*m+18) oM);have H:=(Le.q (l:=3*k+6*l+6*m+18) oM).R O;refine yK (A:=[]) I (uB sizeOf29 pH H C) λac M=>(go3 ?_);refine uJ (fV (t:=6) yD mh0 I M) ?_;intro ad D J;refine yW (λE S=>yE I D E S) ?_;exact J
theorem zO0{w0:World}{h0:Mem}(hs:MLe h0 (mem w0)){k n m:Nat}{vl:Value}{l:(List Tq)}(rl:(tLs k).Is h0 vl l){vs:Value}{s:Pq}(rs:(tPl n m).Is h0 vs s)(hcd0:k<=10000000)(hcd1:m<=10000000)(hcd2:n<=1000000)(hcd3:l.length<=100000):
 Calls Tryz.prog 94 #[vl,vs] w0 (Ret w0 h0 (λ_ r=>r=vB (zGM s l))):=by
 have de:=zCW s.1;refine cb2 73 vl vs func94 hs ?_;refine go2 ?_;refine nB rs λb3 Z ac=>(pP ?_);refine uY (ι:=Mem) 5 (λm_=>MLe h0 m_) (λ_=>[(20,vB (((↑(l).length:Int)<(3:Int))\/(s.1=zT))),(0,vl),(3,vP b3 0),(5,vI (↑(l).length:Int))]) (λ_=>[.var b3 50 Z]) (λm_=>m_) ?_ ?_
 ·
  refine zW ((↑(l).length:Int)<(3:Int)) (λhg=>?_) (λhg=>?_)
  ·
   refine gT hg I (go5 ?_);refine zS h0 (MLe.refl _) ⟨?_,I,I,I,trivial⟩ I I;exact congrArg some (vS hg)
  refine gF hg I (go3 ?_);refine lX (xB zL (Pc.fst pH) ac) λcv bt=>(go1 ?_);refine cL (ev1 I) call80 (λw hs=>zB7 hs bt oM) λaz h1 ai bs=>?_;obtain rfl:az=vB (s.1=zT):=bs;refine go2 ?_;refine zS h1 ai ⟨?_,I,I,I,trivial⟩ I I;exact congrArg some (vT hg)
 intro J an;refine tZ ?_;refine gc2 (λD=>?_) λD=>?_
 ·
  refine go7 ?_;refine zC I I ?_;exact(yM (λe=>D.elim (λh=>by have:=e.1.1;omega) (λh=>e.1.2 h))).symm
 have hN:¬s.1=zT:=λe=>D (.inr e);have h3:3<=l.length:=by have h:=D;omega
 refine go9 ?_;refine gcL (ι:=Nat×Mem) (λ(i,ma)=>(MLe J ma/\(i<=l.length/\∀u,u<i->sdZ s (gp l u)=0),[(0,vl),(3,vP b3 0),(5,vI (↑(l).length:Int)),(6,vI ↑i)],[.var b3 50 Z],ma,l.length-i)) (0,J) ?_ ?_
 · exact⟨mle,by omega,λu h=>by omega⟩
 rintro⟨i,ma⟩ ⟨ca,da,hi2⟩
 refine xC ?_;refine gc8 (λau=>?_) λau=>?_
 ·
  refine go5 ?_;refine zJ 7 _ [] [(0,.q),(1,.q),(2,.q),(3,.q),(4,.q),(5,.c),(6,.q)] yA nX zor nX (λr hr=>hr) (wX I (xB aV pH ac) λcu br=>(go2 ?_));refine wX I (xI zT i underlying35 zL rl) λct bq=>(wX I (xA zL bq) λcq bp=>?_);refine w_c I (sC (ev2 I I) call23 (λw hs=>zB5 hs br bp oM oM oM) λay h1 ai bo=>?_);obtain rfl:ay=vI (sdZ s (l.getD i zT)):=bo;have bv:=bN s (l.getD i zT);refine gc3 (λO=>?_) λO=>?_
  ·
   refine qI ?_;refine zC I I ?_;exact(yM (λe=>O (e.2.1 i oM))).symm
  refine go8 ?_;refine gqL ((i+1),h1) ?_ ?_
  · exact⟨mle,by omega,vH (Q:=λu=>sdZ s (gp l u)=0) hi2 (Classical.not_not.1 O)⟩
  omega
 have hS:∀u,u<l.length->sdZ s (gp l u)=0:=λu hu=>hi2 u oM;refine qE ?_;refine gcL (ι:=Nat×Mem) (λ(i,mb)=>(MLe ma mb/\(i<=l.length/\∀u,u<i->∀C,2<=C->C<l.length->0<orZ (pt2 s (gp l u)) (pt2 s (nx l u)) (pt2 s (gp l ((u+C)%l.length)))),[(0,vl),(3,vP b3 0),(5,vI (↑(l).length:Int)),(7,vI ↑i)],[.var b3 50 Z],mb,l.length-i)) (0,ma) ?_ ?_
 · exact⟨mle,by omega,λu h=>by omega⟩
 rintro⟨i,mb⟩ ⟨bz,cz,ap⟩
 refine xC ?_;refine gc8 (λar=>?_) λar=>?_
 ·
  refine go5 ?_;refine zJ 15 _ [(11,(8,31,[.bool false,.slice none 0 0,.slice none 0 0,.bool false,.slice none 0 0,.slice none 0 0,.bool false,.slice none 0 0,.slice none 0 0])),(12,(9,31,[.bool false,.slice none 0 0,.slice none 0 0,.bool false,.slice none 0 0,.slice none 0 0,.bool false,.slice none 0 0,.slice none 0 0]))] [(0,.q),(1,.q),(2,.q),(3,.q),(4,.q),(5,.q),(6,.q),(7,.q),(8,.q),(9,.q),(10,.q),(11,.a),(12,.a),(13,.c),(14,.c)] yA (jS.cons I I (qA yU I I) (jS.cons I I (qA yU I I) jS.nil)) (wP zor) (qD I I (qD I I kW)) (λr hr=>hr) (go2 ?_);refine wX I (xI zT i underlying35 zL rl) λcp bn=>(wX I (xA zL bn) λco bm=>(go4 ?_));refine wC I (λ_ _=>wF I I oM oM) I (wX I (xI zT ((i+1)%l.length) underlying35 zL rl (hi:=by exact Nat.mod_lt _ oM)) λcn bl=>(wX I (xA zL bl) λcm bk=>?_));refine w_a I I (λb8=>?_);have bb:(tPt (k+1)).R mb [.bool false,.slice none 0 0,.slice none 0 0,.bool false,.slice none 0 0,.slice none 0 0,.bool false,.slice none 0 0,.slice none 0 0] zT:=(xW (yN oM));refine w_a I I (λb9=>?_);have ba:(tPt (k+1)).R mb [.bool false,.slice none 0 0,.slice none 0 0,.bool false,.slice none 0 0,.slice none 0 0,.bool false,.slice none 0 0,.slice none 0 0] zT:=(xW (yN oM));refine w_c I (aY (A:=[_]) (uB sizeOf31 pH bb (bm.le (Le.t (Le.q (l:=k+1) oM)))) (wH zov) λaw aa=>?_);refine w_c I (aY (A:=[]) (uB sizeOf31 pH ba (bk.le (Le.t (Le.q (l:=k+1) oM)))) (wH zov) λav ak=>(go8 ?_));refine gcL (ι:=Nat×Mem) (λ(q,mq)=>(MLe mb mq/\((2<=q/\q<=l.length)/\∀C,2<=C->C<q->0<orZ (pt2 s (gp l i)) (pt2 s (nx l i)) (pt2 s (gp l ((i+C)%l.length)))),[(0,vl),(3,vP b3 0),(5,vI (↑(l).length:Int)),(7,vI ↑i),(8,vP b8 0),(9,vP b9 0),(10,vI ↑q)],[.var b9 31 av,.var b8 31 aw,.var b3 50 Z],mq,l.length-q)) (2,mb) ?_ ?_
  · exact⟨mle,⟨by omega,by omega⟩,λC H U=>by omega⟩
  rintro⟨q,mq⟩ ⟨bx,⟨cy,cw⟩,ao⟩
  refine xC ?_;refine gc8 (λaq=>?_) λaq=>?_
  ·
   refine qI ?_;refine gv (wF I I oM oM) I (lX (xI zT ((i+q)%l.length) underlying35 zL rl (hi:=by exact Nat.mod_lt _ oM)) λcl bj=>(lX (xA zL bj) λck bi=>(nA (ρ:=(tPt (k+1))) (X:=zT) yU (xW (yN oM)) λdf cb am=>(yI (A:=[]) (uB sizeOf31 pH am (bi.le (Le.t (Le.q (l:=k+1) oM)))) λbw ab=>(go3 ?_)))));refine zJ 11 _ [] [(0,.q),(1,.q),(3,.q),(4,.q),(6,.q),(7,.q),(2,.c),(5,.c),(8,.c),(9,.c),(10,.q)] yA nX zor nX (λr hr=>hr) (wX I (xB zL pH ak) λcj bh=>(wX I (xB zL pH aa) λci bg=>(wX I (xB zL pH ab) λcg bf=>(wX I (xB zL pH aa) λcf be=>(go1 ?_)))));refine wX I (xB zL (Pc.fst pH) ac) λcd bd=>?_;refine w_c I (sC (ev2 I I) call22 (λw hs=>iI hs bh bg oM) λch h1 ai ah=>?_);replace ah:=Rp.Is.le ah (Le.t (Le.q (l:=2*k+3) oM));refine w_c I (sC (ev2 I I) call22 (λw hs=>iI hs bf.up be.up oM) λce h2 dd ae=>?_);replace ae:=Rp.Is.le ae (Le.t (Le.q (l:=2*k+3) oM));refine w_c I (sC (ev3 I I I) call98 (λw hs=>zXA hs ah.up ae bd.up oM oM oM) λcc h3 dc ad=>?_);replace ad:=Rp.Is.le ad (Le.q (l:=18*k+6*n+45) oM);refine w_c I (sC (ev1 I) call48 (λw hs=>qC hs ad oM) λax h4 db bc=>?_);obtain rfl:ax=vI (yV (yB (T3.mk ((l.getD ((i+1)%l.length) zT).x-(l.getD i zT).x) ((l.getD ((i+1)%l.length) zT).y-(l.getD i zT).y) ((l.getD ((i+1)%l.length) zT).z-(l.getD i zT).z)) (T3.mk ((l.getD ((i+q)%l.length) zT).x-(l.getD i zT).x) ((l.getD ((i+q)%l.length) zT).y-(l.getD i zT).y) ((l.getD ((i+q)%l.length) zT).z-(l.getD i zT).z)) s.1)):=bc;have bu:=xG (yB (T3.mk ((l.getD ((i+1)%l.length) zT).x-(l.getD i zT).x) ((l.getD ((i+1)%l.length) zT).y-(l.getD i zT).y) ((l.getD ((i+1)%l.length) zT).z-(l.getD i zT).z)) (T3.mk ((l.getD ((i+q)%l.length) zT).x-(l.getD i zT).x) ((l.getD ((i+q)%l.length) zT).y-(l.getD i zT).y) ((l.getD ((i+q)%l.length) zT).z-(l.getD i zT).z)) s.1);refine gc3 (λM=>?_) λM=>?_
   ·
    have aj:¬0<orZ (pt2 s (gp l i)) (pt2 s (nx l i)) (pt2 s (gp l ((i+q)%l.length))):=(zY9 hN (hS i oM) (hS ((i+1)%l.length) (Nat.mod_lt _ oM)) (hS ((i+q)%l.length) (Nat.mod_lt _ oM))).1 M;refine pP ?_;refine zC I I ?_;exact(yM (λe=>aj (e.2.2 i q oM oM oM))).symm
   have aj:0<orZ (pt2 s (gp l i)) (pt2 s (nx l i)) (pt2 s (gp l ((i+q)%l.length))):=Classical.not_not.1 (λe=>M ((zY9 hN (hS i oM) (hS ((i+1)%l.length) (Nat.mod_lt _ oM)) (hS ((i+q)%l.length) (Nat.mod_lt _ oM))).2 e));refine go8 ?_;refine xO (A:=[]) ?_;refine gqL ((q+1),h4) ?_ ?_
   · exact⟨mle,⟨by omega,by omega⟩,λC H U=>by rcases Nat.lt_succ_iff_lt_or_eq.1 U with e|e;exact ao C H e;subst e;exact aj⟩
   omega
  refine qI ?_;refine xO (A:=[]) (xO (A:=[]) ?_);refine gqL ((i+1),mq) ?_ ?_
  · exact⟨mle,by omega,vH (Q:=λu=>∀C,2<=C->C<l.length->0<orZ (pt2 s (gp l u)) (pt2 s (nx l u)) (pt2 s (gp l ((u+C)%l.length)))) ap (λC H U=>ao C H oM)⟩
  omega
 have hE:∀u C,u<l.length->2<=C->C<l.length->0<orZ (pt2 s (gp l u)) (pt2 s (nx l u)) (pt2 s (gp l ((u+C)%l.length))):=λu C hu H U=>ap u oM C H U;refine qI ?_;refine zC I I ?_;exact(xT ⟨⟨h3,hN⟩,hS,hE⟩).symm
set_option maxHeartbeats 1000000 in
theorem zL9{w0:World}{h0:Mem}(hs:MLe h0 (mem w0)){k:Nat}{vl:Value}{l:(List Tq)}(rl:(tLs k).Is h0 vl l){vt:Value}{t:Tq}(rt:(tPt k).Is h0 vt t)(hcd0:k<=10)(hcd1:pyH l t):
 Calls Tryz.prog 52 #[vl,vt] w0 (tP w0 h0 (λh r L_=>∃u0 vF cs,r=.tuple #[u0,vI 0]/\(rpP (tLs (k+2)) (rpP rpV (rpS (rpP rpI (rpP rpI (rpQ 6)))))).Is h u0 (nrP (pyR l t),(vF,[]))/\L_=[.gs 53 14 vF (nrF (pyR l t)).length cs]/\vF.oneCell'=true/\RL (tFc (1000*k+5000) (1000*k+5000)) h cs (nrF (pyR l t)))):=by
 have jl:=hcd1.1.1;obtain⟨jr,gt⟩:=zVA hcd1.1.2;refine cb2 113 vl vt func52 hs ?_;refine go2 ?_;refine nB rt λb3 dl da=>(nA (ρ:=(rpP (tLs 1) (rpP rpV (rpS (rpP rpI (rpP rpI (rpQ 1))))))) (X:=([],((Value.slice none 0 0),[]))) gB (yF vC (yF rO vC)) λb4 dk fk=>(oW ?_));refine cnd (λbn=>?_) λbn=>?_
 · exact absurd bn oM
 refine gc9 (λbm=>?_) λbm=>?_
 · exact absurd bm oM
 refine go3 ?_;refine zJ 16 _ [(13,(7,50,[.bool false,.slice none 0 0,.slice none 0 0,.bool false,.slice none 0 0,.slice none 0 0,.bool false,.slice none 0 0,.slice none 0 0,.bool false,.slice none 0 0,.slice none 0 0]))] [(0,.q),(1,.q),(2,.q),(3,.q),(4,.q),(5,.q),(6,.q),(7,.q),(8,.q),(9,.c),(10,.q),(11,.q),(12,.q),(13,.a),(14,.c),(15,.q)] yA (jS.cons I I (qA sU I I) jS.nil) (wP zor) (qD I I kW) (λr hr=>hr) (go1 ?_);refine bH (F:=λv_=>AtP (tPt k) h0 v_ (l.getD 0 zT)) I (kT (q:=0) zT 0 underlying35 zL I I rl I oM nP) oO I ?_;intro jd gh;refine wX I (xA zL gh) λjc gg=>(go1 ?_);refine bH (F:=λv_=>AtP (tPt k) h0 v_ (l.getD 1 zT)) I (kT (q:=1) zT 1 underlying35 zL I I rl I oM nP) oO I ?_;intro jb gf;refine wX I (xA zL gf) λja ge=>(go1 ?_);refine bH (F:=λv_=>AtP (tPt k) h0 v_ (l.getD 2 zT)) I (kT (q:=2) zT 2 underlying35 zL I I rl I oM nP) oO I ?_;intro iz gc;refine wX I (xA zL gc) λiy gb=>?_;refine w_c I (sC (ev3 I I I) call93 (λw hs=>zAQ hs gg ge gb oM) λix h1 jo ga=>?_);obtain⟨bq,rfl,ay⟩:=ga
 change (tPl (50*k+200) (200*k+900)).Is h1 bq (thZ (l.getD 0 zT) (l.getD 1 zT) (l.getD 2 zT)) at ay
 refine go3 ?_;refine w_a I I (λb7=>?_);have fj:(tPl 1 1).R h1 [.bool false,.slice none 0 0,.slice none 0 0,.bool false,.slice none 0 0,.slice none 0 0,.bool false,.slice none 0 0,.slice none 0 0,.bool false,.slice none 0 0,.slice none 0 0] (zT,(0:Rat)):=(yF (xW (yN dC)) (yN dC));refine w_c I ?_;have du:=(Le.p (Le.t (Le.q (l:=50*k+200) oM)) (Le.q (l:=200*k+900) oM)).R fj;refine aY (A:=[]) (uB sizeOf50 pH du ay) (wH zov) λbc av=>(go7 ?_);refine gv (OpV.fa (by rw[gt];exactλe=>e I) (mI (q:=0) I I)) I (go4 ?_);refine lX (xB aV pH av) λiw fz=>(go1 ?_);refine cL (ev2 I I) call94 (λw hs=>zO0 hs rl.up fz oM oM oM (by first|omega|exact hcd1.2.1.1)) λfi h2 jn fy=>?_;obtain rfl:fi=vB (zGM (thZ (l.getD 0 zT) (l.getD 1 zT) (l.getD 2 zT)) l):=fy;refine go3 ?_;refine uY (ι:=Mem) 6 (λm_=>MLe h2 m_) (λ_=>[(49,vB ((¬(zGM (thZ (l.getD 0 zT) (l.getD 1 zT) (l.getD 2 zT)) l))\/((sdZ (thZ (l.getD 0 zT) (l.getD 1 zT) (l.getD 2 zT)) t)<=(0:Int)))),(0,vl),(3,vP b3 0),(4,vP b4 0),(6,vI (↑(l).length:Int)),(7,vP b7 0)]) (λ_=>[.var b7 50 bc,.var b4 39 dk,.var b3 31 dl]) (λm_=>m_) ?_ ?_
 ·
  refine zW (¬(zGM (thZ (l.getD 0 zT) (l.getD 1 zT) (l.getD 2 zT)) l)) (λhg=>?_) (λhg=>?_)
  ·
   refine gT hg I (go6 ?_);refine zS h2 (MLe.refl _) ⟨?_,I,I,I,I,I,trivial⟩ I I;exact congrArg some (vS hg)
  refine gF hg I (go1 ?_);refine lX (xB aV pH av) λiv fx=>(go1 ?_);refine lX (xB zL pH da) λiu fw=>(go1 ?_);refine cL (ev2 I I) call23 (λw hs=>zB5 hs fx fw oM oM oM) λfh h3 ab fv=>?_;obtain rfl:fh=vI (sdZ (thZ (l.getD 0 zT) (l.getD 1 zT) (l.getD 2 zT)) t):=fv;have go:=bN (thZ (l.getD 0 zT) (l.getD 1 zT) (l.getD 2 zT)) t;refine go4 ?_;refine zS h3 ab ⟨?_,I,I,I,I,I,trivial⟩ I I;exact congrArg some (vT hg)
 intro ah en;refine tZ ?_;refine gc2 (λbl=>?_) λbl=>?_
 ·
  rcases bl with e|e
  exact absurd hcd1.2.1.1 e;have:=hcd1.2.1.2;omega
 refine go2 ?_;refine jI (ι:=Nat×List Value×Mem) (λ(D,J,mc)=>MLe ah mc/\((rpP (tLs (k+1)) (rpP rpV (rpS (rpP rpI (rpP rpI (rpQ 1)))))).R mc J ((l++[t]),((Value.slice none 0 0),([]:List En)))/\True)) (λ(D,J,mc)=>[(0,vl),(3,vP b3 0),(4,vP b4 0),(6,vI (↑(l).length:Int)),(7,vP b7 0),(9,vP D 0)]) (λ(D,J,mc)=>[.var D 39 J,.var b7 50 bc,.var b4 39 dk,.var b3 31 dl]) (λ(D,J,mc)=>mc) ?_ ?_
 ·
  refine zJ 7 _ [(6,(9,39,[.slice none 0 0,.slice none 0 0,.slice none 0 0]))] [(0,.q),(2,.q),(1,.b 3),(4,.c),(5,.c),(6,.a),(7,.t)] yA (jS.cons I I (qA gB I I) jS.nil) zor (qD I I kW) (λr hr=>hr) (go1 ?_);refine wX I (xB zL pH da) λir ed=>?_;refine w_b I I ?_ ?_
  ·
   refine zER 31 9 ?_;have dw:=RL.nil (ρ:=rpT (rpQ k)) (h:=ah);refine tG (A:=[]) (λX=>uS (zV (ρ:=(tPt k)) (bytes:=168) underlying35 yU I I I I nP I I dw rl.up bO bO)) I (wH zov) ?_
   rintro fg gn ⟨em,ew,rfl,H⟩
   refine jM (λX=>zO (ρ:=(tPt (k+1))) (m:=1) (xs:=[t]) (ps':=[(0,_)]) underlying35 yU I I I (xW (yN oM)) e2z (zG I (Pc.arr (Pc.here _) zT 0 dC) (ed.le (Le.t (Le.q (l:=k+1) oM))) zR) zok nP) I ?_;intro ff gm ek;obtain⟨ev,rfl,ar⟩:=ek;refine w_c I (wA (A:=[]) (ρ:=(tPt (k+1))) ar dK ?_);intro h3 ab dv;replace H:=H.mono ab;have dt:=(Le.t (Le.q (l:=k+1) oM)).rl H;refine tG (A:=[]) (λX=>uS (zV (ρ:=(tPt (k+1))) (bytes:=168) underlying35 yU I I I I nP I I dt dv bO bO)) I (wH zov) ?_
   rintro fe gk ⟨el,eu,rfl,aq⟩
   refine w_c I (wA (A:=[]) (ρ:=(tPt (k+1))) aq dK ?_);intro h4 am ci;refine sX (xV (ρ:=(rpP (tLs (k+1)) (rpP rpV (rpS (rpP rpI (rpP rpI (rpQ 1))))))) (wE (ps':=[(0,_)]) underlying39 gB I I (pV underlying39) e2z I (yF vC (yF rO vC)) (zG I (Pc.fst (Pc.here _)) ci zR))) λfd db=>?_;refine w_a I I (λb9=>?_);have cz:(rpP (tLs 1) (rpP rpV (rpS (rpP rpI (rpP rpI (rpQ 1)))))).R h4 [.slice none 0 0,.slice none 0 0,.slice none 0 0] ([],((Value.slice none 0 0),[])):=(yF vC (yF rO vC));have bv:=(Le.p (Le.s (Le.t (Le.q (l:=k+1) oM))) (Le.refl _)).R cz;refine yK (A:=[]) I (uB sizeOf39 pH bv db) λdj cy=>(go1 ?_);refine zS (b9,dj,h4) ?_ e6z I I;refine⟨(ab.trans am),?_⟩;refine⟨cy,?_⟩
   trivial
  refine jM (λX=>zO (ρ:=(tPt (k+1))) (m:=1) (xs:=[t]) (ps':=[(0,_)]) underlying35 yU I I I (xW (yN oM)) e2z (zG I (Pc.arr (Pc.here _) zT 0 dC) (ed.le (Le.t (Le.q (l:=k+1) oM))) zR) zok nP) I ?_
  rintro ff gm ⟨ev,rfl,ar⟩
  refine zER 31 9 ?_;have cm:=RL.nil (ρ:=rpT (rpQ k)) (h:=ah);refine tG (A:=[]) (λX=>uS (zV (ρ:=(tPt k)) (bytes:=168) underlying35 yU I I I I nP I I cm rl.up bO bO)) I (wH zov) ?_
  rintro fg gn ⟨em,ew,rfl,H⟩
  refine w_c I (wA (A:=[_]) (ρ:=(tPt (k+1))) ar dK ?_);intro h3 ab ch;replace H:=H.mono ab;have bu:=(Le.t (Le.q (l:=k+1) oM)).rl H;refine tG (A:=[]) (λX=>uS (zV (ρ:=(tPt (k+1))) (bytes:=168) underlying35 yU I I I I nP I I bu ch bO bO)) I (wH zov) ?_
  rintro fe gk ⟨el,eu,rfl,aq⟩
  refine w_c I (wA (A:=[]) (ρ:=(tPt (k+1))) aq dK ?_);intro h4 am cg;refine sX (xV (ρ:=(rpP (tLs (k+1)) (rpP rpV (rpS (rpP rpI (rpP rpI (rpQ 1))))))) (wE (ps':=[(0,_)]) underlying39 gB I I (pV underlying39) e2z I (yF vC (yF rO vC)) (zG I (Pc.fst (Pc.here _)) cg zR))) λfd db=>?_;refine w_a I I (λb9=>?_);have cz:(rpP (tLs 1) (rpP rpV (rpS (rpP rpI (rpP rpI (rpQ 1)))))).R h4 [.slice none 0 0,.slice none 0 0,.slice none 0 0] ([],((Value.slice none 0 0),[])):=(yF vC (yF rO vC));have bt:=(Le.p (Le.s (Le.t (Le.q (l:=k+1) oM))) (Le.refl _)).R cz;refine yK (A:=[]) I (uB sizeOf39 pH bt db) λdi cw=>(go1 ?_);refine zS (b9,di,h4) ?_ e6z I I;refine⟨(ab.trans am),?_⟩;refine⟨cw,?_⟩
  trivial
 rintro⟨D,J,mc⟩ ⟨hv,bk⟩
 refine xC ?_;obtain⟨eb,bk⟩:=bk;refine qE ?_;refine xM 3 1 ?_;have cl:=RL.nil (ρ:=rpI) (h:=mc);refine xM 53 14 ?_;have ck:=RL.nil (ρ:=rpP (tPl (150*k+700) (200*k+901)) (rpP tII kR)) (h:=mc);refine gcL (ι:=Nat×List Int×List Fc×List Value×Value×List Value×Value×List Value×Mem) (λ(i,LN,FF,ak,U,aj,C,ai,ma)=>(MLe mc ma/\((rpP (tLs (k+1)) (rpP rpV (rpS (rpP rpI (rpP rpI (rpQ 1)))))).R ma ak ((l++[t]),(C,([]:List En)))/\RL rpI ma aj LN/\RL (tFc (150*k+700) (200*k+901)) ma ai FF/\C.oneCell'=true/\i<=l.length/\LN=pyL l.length i/\FF=pyT l t i),[(0,vl),(3,vP b3 0),(4,vP b4 0),(6,vI (↑(l).length:Int)),(7,vP b7 0),(9,vP D 0),(10,U),(11,vI ↑i)],[.gs 53 14 C FF.length ai,.gs 3 1 U LN.length aj,.var D 39 ak,.var b7 50 bc,.var b4 39 dk,.var b3 31 dl],ma,l.length-i)) (0,[],[],J,(.slice none 0 0),[],(.slice none 0 0),[],mc) ?_ ?_
 · exact⟨mle,eb,cl,ck,I,by omega,I,I⟩
 rintro⟨i,LN,FF,ak,U,aj,C,ai,ma⟩ ⟨ia,aa,ap,ao,gq,jm,bg,bh⟩
 refine xC ?_;have jp:LN.length=i:=by rw[bg];exact xK _ _
 have jq:FF.length=i:=by rw[bh];exact xK _ _
 refine gc8 (λep=>?_) λep=>?_
 ·
  have ji:=s5 (((i:Int):Int):Rat);have jj:=sT (i:Int) oM oM;have jk:=Int.emod_nonneg ((↑i:Int)+1) (b:=(↑l.length:Int)) oM;have hu:=Int.emod_lt_of_pos ((↑i:Int)+1) (b:=(↑l.length:Int)) oM;refine qI ?_;refine zK (zO (ρ:=rpI) (m:=1) (xs:=[(((↑(l).length:Int)-(1:Int))-(↑i:Int))]) (ps':=[(0,_)]) underlying22 gK I I I wM e2z (zG I (Pc.arr (Pc.here _) (0:Int) 0 dC) (jA oM oM) zR) zoj nP) I I I ?_
  rintro iq jh ⟨ic,rfl,ea⟩
  refine yC (A:=[]) (ρ:=rpI) ea ?_;intro h3 ab cf;refine xR (A:=[_]) (uS (zV (ρ:=rpI) (bytes:=8) underlying22 gK I I I I nP I I ap.up cf bO bO)) I I I ?_
  rintro fc jg ⟨hq,es,rfl,dz⟩
  refine go8 ?_;refine gv (wF I I oM oM) I (go4 ?_);refine zJ 16 _ [(13,(13,50,[.bool false,.slice none 0 0,.slice none 0 0,.bool false,.slice none 0 0,.slice none 0 0,.bool false,.slice none 0 0,.slice none 0 0,.bool false,.slice none 0 0,.slice none 0 0]))] [(0,.q),(1,.q),(2,.q),(3,.q),(4,.q),(5,.q),(6,.q),(7,.q),(8,.q),(9,.c),(10,.q),(11,.q),(12,.q),(13,.a),(14,.c),(15,.q)] yA (jS.cons I I (qA sU I I) jS.nil) (wP zor) (qD I I kW) (λr hr=>hr) (go2 ?_);refine wX I (xI zT i underlying35 zL rl) λip fu=>(wX I (xA zL fu) λio ft=>(go2 ?_));refine wX I (xI zT ((i+1)%l.length) underlying35 zL rl (hi:=by exact Nat.mod_lt _ oM)) λim fs=>(wX I (xA zL fs) λil fr=>(wX I (xB zL pH da) λik fq=>?_));refine w_c I (sC (ev3 I I I) call93 (λw hs=>zAQ hs ft fr fq oM) λij h4 am fp=>?_);obtain⟨bp,rfl,ax⟩:=fp
  change (tPl (50*k+200) (200*k+900)).Is h4 bp (thZ (l.getD i zT) (l.getD ((i+1)%l.length) zT) t) at ax
  refine go3 ?_;refine w_a I I (λjs=>?_);have ec:(tPl 1 1).R h4 [.bool false,.slice none 0 0,.slice none 0 0,.bool false,.slice none 0 0,.slice none 0 0,.bool false,.slice none 0 0,.slice none 0 0,.bool false,.slice none 0 0,.slice none 0 0] (zT,(0:Rat)):=(yF (xW (yN dC)) (yN dC));refine w_c I ?_;have bs:=(Le.p (Le.t (Le.q (l:=50*k+200) oM)) (Le.q (l:=200*k+900) oM)).R ec;refine aY (A:=[]) (uB sizeOf50 pH bs ax) (wH zov) λgw cv=>(go3 ?_);refine qO (A:=[_]) 15 [] [(0,.q),(1,.q),(2,.q),(3,.q),(4,.q),(5,.q),(8,.q),(0,.x [10] [6,7] [9,10]),(11,.c),(12,.c),(13,.c),(14,.q),(15,.t)] yA nX zor nX (go1 ?_);refine wX I (aA (xB fQ (Pc.snd (Pc.fst pH)) aa)) λii fo=>?_;subst fo;refine wX I (xB aV pH cv) λih fm=>(go4 ?_);refine yEZ (N:=4) I ?_;refine zDI I I I I ?x2 ?x3
  case' x2=>
   refine jM (λX=>zO (ρ:=rpI) (m:=3) (xs:=[(↑i:Int),(((↑i:Int)+(1:Int))%(↑(l).length:Int)),(↑(l).length:Int)]) (ps':=[(0,_),(1,_),(2,_)]) underlying22 gK I I I wM e6z (zG I (Pc.arr (Pc.here _) (0:Int) 0 dC) (jA oM oM) (zG I (Pc.arr (Pc.here _) (0:Int) 1 dC) (jA oM oM) (zG I (Pc.arr (Pc.here _) (0:Int) 2 dC) (jA oM oM) zR))) zop nP) I ?_
   rintro fb gj ⟨er,rfl,M⟩
   refine zDI I I I I ?x4 ?x5
   case' x4=>
    refine wA (A:=[]) (ρ:=rpI) M dK ?_;intro h5 bf ce;refine jM (λX=>zO (ρ:=(rpS rpI)) (m:=1) (xs:=[[(↑i:Int),(((↑i:Int)+(1:Int))%(↑(l).length:Int)),(↑(l).length:Int)]]) (ps':=[(0,_)]) underlying51 jF I I I vC e2z (zG I (Pc.arr (Pc.here _) [] 0 dC) ce zR) zoj nP) I ?_;intro dp eh az;obtain⟨bo,rfl,ac⟩:=az;refine zNS I I (sC (ev1 I) call88 (λw hs=>vJ hs oM oM) λdn h6 be aw=>?_);obtain⟨rfl,ba⟩:=kF aw;refine yJV I (bZ I (λ_ _=>wW (pa:=([115]:List Nat)) (pb:=(qK (((↑i:Int):Int):Rat))) I I zos) I (y9 ?_));replace ac:=ac.mono be
   case' x5=>
    refine sC (ev1 I) call88 (λw hs=>vJ hs oM oM) λdn h5 bf aw=>?_;obtain⟨rfl,ba⟩:=kF aw;refine yDD I I (bZ I (λ_ _=>wW (pa:=([115]:List Nat)) (pb:=(qK (((↑i:Int):Int):Rat))) I I zos) I (g7 I I ?_));replace M:=M.mono bf;refine wA (A:=[]) (ρ:=rpI) M dK ?_;intro h6 be cd;refine jM (λX=>zO (ρ:=(rpS rpI)) (m:=1) (xs:=[[(↑i:Int),(((↑i:Int)+(1:Int))%(↑(l).length:Int)),(↑(l).length:Int)]]) (ps':=[(0,_)]) underlying51 jF I I I vC e2z (zG I (Pc.arr (Pc.here _) [] 0 dC) cd zR) zoj nP) I ?_;intro dp eh az;obtain⟨bo,rfl,ac⟩:=az;refine y9 ?_
  case' x3=>
   refine sC (ev1 I) call88 (λw hs=>vJ hs oM oM) λdn h5 bf aw=>?_;obtain⟨rfl,ba⟩:=kF aw;refine yDD I I (bZ I (λ_ _=>wW (pa:=([115]:List Nat)) (pb:=(qK (((↑i:Int):Int):Rat))) I I zos) I (g7 I I (jM (λX=>zO (ρ:=rpI) (m:=3) (xs:=[(↑i:Int),(((↑i:Int)+(1:Int))%(↑(l).length:Int)),(↑(l).length:Int)]) (ps':=[(0,_),(1,_),(2,_)]) underlying22 gK I I I wM e6z (zG I (Pc.arr (Pc.here _) (0:Int) 0 dC) (jA oM oM) (zG I (Pc.arr (Pc.here _) (0:Int) 1 dC) (jA oM oM) (zG I (Pc.arr (Pc.here _) (0:Int) 2 dC) (jA oM oM) zR))) zop nP) I ?_)))
   rintro fb gj ⟨er,rfl,M⟩
   refine g7 I I (wA (A:=[]) (ρ:=rpI) M dK ?_);intro h6 be cc;refine jM (λX=>zO (ρ:=(rpS rpI)) (m:=1) (xs:=[[(↑i:Int),(((↑i:Int)+(1:Int))%(↑(l).length:Int)),(↑(l).length:Int)]]) (ps':=[(0,_)]) underlying51 jF I I I vC e2z (zG I (Pc.arr (Pc.here _) [] 0 dC) cc zR) zoj nP) I ?_
   rintro dp eh ⟨bo,rfl,ac⟩
   refine y9 ?_
  all_goals
   refine w_c I (wA (A:=[]) (ρ:=(rpS rpI)) ac dK ?_);intro h7 eo cb;refine sX (xV (ρ:=(tFc (50*k+200) (200*k+900))) (wE (ps':=[(0,_),(1,_),(2,_)]) underlying53 jU I I (bQ underlying53) e6z I (yF (yF (xW (yN oM)) (yN oM)) (yF vC gY)) (zG I (Pc.fst (Pc.here _)) fm.up (zG I (Pc.snd (Pc.fst (Pc.here _))) cb (zG I (Pc.snd (Pc.snd (Pc.here _))) (cZ ((show ByB [115] by unfold ByB;decide).app ba)) zR))))) λig fl=>?_;refine w_c I (jM (λX=>zO (ρ:=(tFc (50*k+200) (200*k+900))) (m:=1) (xs:=[(thZ (l.getD i zT) (l.getD ((i+1)%l.length) zT) t,([[(↑i:Int),(((↑i:Int)+(1:Int))%(↑(l).length:Int)),(↑(l).length:Int)]],(([115]:List Nat)++(qK (((↑i:Int):Int):Rat)))))]) (ps':=[(0,_)]) underlying36 jU I I I (yF (yF (xW (yN oM)) (yN oM)) (yF vC gY)) e2z (zG I (Pc.arr (Pc.here _) zA 0 dC) fl zR) zon nP) I ?_)
   rintro ie jf ⟨ib,rfl,dy⟩
   refine w_c I (wA (A:=[]) (ρ:=(tFc (50*k+200) (200*k+900))) dy dK ?_);intro h8 gr ca;refine tG (A:=[_]) (λX=>uS (zV (ρ:=(tFc (150*k+700) (200*k+901))) (bytes:=264) underlying36 jU I I I I nP I I ao.up (ca.le (Le.s (Le.p (Le.p (Le.t (Le.q (l:=150*k+700) oM)) (Le.q (l:=200*k+901) oM)) (Le.refl _)))) bO bO)) I (wH zov) ?_
   rintro ez je ⟨bj,eq,rfl,dx⟩
   refine go1 ?_;refine yK (A:=[_,_,_]) I (uB sizeOf36 (Pc.snd (Pc.fst pH)) aa (j8 bj)) λdh cu=>(go8 ?_);refine xO (A:=[]) ?_;refine gqL ((i+1),(LN++[(((↑(l).length:Int)-(1:Int))-(↑i:Int))]),(FF++[(thZ (l.getD i zT) (l.getD ((i+1)%l.length) zT) t,([[(↑i:Int),(((↑i:Int)+(1:Int))%(↑(l).length:Int)),(↑(l).length:Int)]],(([115]:List Nat)++(qK (((↑i:Int):Int):Rat)))))]),dh,fc,es,ez,eq,h8) ?_ ?_
   · exact⟨mle,cu,dz.up,dx,bj,by omega,by rw[bg];rfl,by rw[bh];rfl⟩
   omega
 have ei:i=l.length:=by omega
 rw[ei] at bg bh;refine go6 ?_;refine zGC (A:=[_]) (ρ:=rpI) ap.up ?_;intro h3 ab an;refine qO (A:=[]) 10 [] [(0,.q),(1,.q),(2,.q),(4,.q),(0,.x [] [3] [5]),(6,.c),(7,.c),(8,.c),(9,.q),(10,.t)] yA nX zor nX (go1 ?_);refine wX I (aA (xB fQ (Pc.snd (Pc.fst pH)) aa)) λhn eg=>?_;subst eg;refine wX I (xB aV pH av) λhm bi=>(go1 ?_);refine yEZ (N:=2) I ?_;refine zDI I I I I ?x6 ?x7
 case' x6=>
  refine sC (ev1 I) call76 (λw hs=>zAR hs bi oM oM) λdr h4 am O=>?_;replace O:=Rp.Is.le O (Le.p (Le.t (Le.q (l:=150*k+610) oM)) (Le.q (l:=200*k+901) oM));refine zNS I I (jM (λX=>zO (ρ:=(rpS rpI)) (m:=1) (xs:=[LN]) (ps':=[(0,_)]) underlying51 jF I I I vC e2z (zG I (Pc.arr (Pc.here _) [] 0 dC) an.up zR) zoj nP) I ?_);intro dq ej dc;obtain⟨dm,rfl,au⟩:=dc;refine y9 ?_
 case' x7=>
  refine jM (λX=>zO (ρ:=(rpS rpI)) (m:=1) (xs:=[LN]) (ps':=[(0,_)]) underlying51 jF I I I vC e2z (zG I (Pc.arr (Pc.here _) [] 0 dC) an.up zR) zoj nP) I ?_
  rintro dq ej ⟨dm,rfl,au⟩
  refine g7 I I (sC (ev1 I) call76 (λw hs=>zAR hs bi oM oM) λdr h4 am O=>?_);replace O:=Rp.Is.le O (Le.p (Le.t (Le.q (l:=150*k+610) oM)) (Le.q (l:=200*k+901) oM));refine y9 ?_
 all_goals
  refine w_c I (wA (A:=[]) (ρ:=(rpS rpI)) au.up dK ?_);intro h5 bf bz;refine sX (xV (ρ:=(tFc (150*k+610) (200*k+901))) (wE (ps':=[(0,_),(1,_),(2,_)]) underlying53 jU I I (bQ underlying53) e6z I (yF (yF (xW (yN oM)) (yN oM)) (yF vC gY)) (zG I (Pc.fst (Pc.here _)) O.up (zG I (Pc.snd (Pc.fst (Pc.here _))) bz (zG I (Pc.snd (Pc.snd (Pc.here _))) (cZ (show ByB [98,97,115,101] by unfold ByB;decide)) zR))))) λhl ef=>?_;refine w_c I (jM (λX=>zO (ρ:=(tFc (150*k+610) (200*k+901))) (m:=1) (xs:=[(opP (thZ (l.getD 0 zT) (l.getD 1 zT) (l.getD 2 zT)),([LN],([98,97,115,101]:List Nat)))]) (ps':=[(0,_)]) underlying36 jU I I I (yF (yF (xW (yN oM)) (yN oM)) (yF vC gY)) e2z (zG I (Pc.arr (Pc.here _) zA 0 dC) ef zR) zon nP) I ?_)
  rintro hj hp ⟨gy,rfl,co⟩
  refine w_c I (wA (A:=[]) (ρ:=(tFc (150*k+610) (200*k+901))) co dK ?_);intro h6 be bx;refine tG (A:=[]) (λX=>uS (zV (ρ:=(tFc (150*k+700) (200*k+901))) (bytes:=264) underlying36 jU I I I I nP I I ao.up (bx.le (Le.s (Le.p (Le.p (Le.t (Le.q (l:=150*k+700) oM)) (Le.refl _)) (Le.refl _)))) bO bO)) I (wH zov) ?_
  rintro he ho ⟨de,gx,rfl,cn⟩
  refine go1 ?_;refine yK (A:=[_]) I (uB sizeOf36 (Pc.snd (Pc.fst pH)) aa (j8 de)) λbb ae=>(go4 ?_);refine yC (A:=[]) (ρ:=(tFc (150*k+700) (200*k+901))) cn ?_;intro h7 eo bw;replace ae:=ae.mono eo;have ct:(tSd (k+1) (150*k+700) (200*k+901) 1).R h7 bb (((l++[t]),(C,([]:List En))).1,((FF++[(opP (thZ (l.getD 0 zT) (l.getD 1 zT) (l.getD 2 zT)),([LN],([98,97,115,101]:List Nat)))]),(((l++[t]),(C,([]:List En))).2).2)):=zK0 ae bw;have cq:(tSd (k+1) (150*k+700) (200*k+901) 1).R h7 bb (pyR l t):=Rp.castR ct (by rw[bh,bg];rfl);refine lX (xB gV pH cq) λhb ee=>?_;refine jJ (vs:=[_]) I I I I call47 ⟨I,trivial⟩ (λw hs=>q8 hs ee oM oM oM (by first|omega|exact hcd1.2.2|exact hcd1.2.1.1)) ?_;intro ha h8 id gr ad;obtain⟨ey,df,ad,rfl,dd,Z⟩:=ad
  change RL (tFc (4*(150*k+700)+12) ((150*k+700)+(200*k+901)+12)) h8 df (nrF (pyR l t)) at Z
  replace ad:=Rp.Is.le ad (Le.p (Le.s (Le.t (Le.q (l:=k+2) oM))) (Le.p (Le.refl _) (Le.s (Le.p (Le.refl _) (Le.p (Le.refl _) (Le.q (l:=2) oM))))));replace Z:=(Le.p (Le.p (Le.t (Le.q (l:=600*k+2812) oM)) (Le.q (l:=350*k+1613) oM)) (Le.refl _)).rl Z;have br:=(Le.p (Le.s (Le.t (Le.q (l:=k+2) oM))) (Le.p (Le.refl _) (Le.s (Le.p (Le.refl _) (Le.p (Le.refl _) (Le.q (l:=2) dC)))))).R fk;refine yI (A:=[_,_,_]) (uB sizeOf39 pH br ad) λgu cp=>(go4 ?_);refine uJ (fV (t:=4) gV mh3 I cp) ?_;intro gz bd cj;refine gR (.cons_cons _ (List.nil_sublist _)) (λE S=>jN I bd (tM I) E S) ?_;exact⟨_,_,_,I,(Rp.Is.cast (Rp.Is.le cj (Le.p (Le.refl _) (Le.p (Le.refl _) (Le.s (Le.p (Le.refl _) (Le.p (Le.refl _) (Le.q (l:=6) dC))))))) (by rw[show nrE (pyR l t)=[] from by unfold nrE;split<;>rfl])),I,dd,((Le.p (Le.p (Le.t (Le.q (l:=1000*k+5000) oM)) (Le.q (l:=1000*k+5000) oM)) (Le.refl _)).rl Z)⟩
set_option maxHeartbeats 1000000 in
theorem zJR{w0 w:World}{h0 h:Mem}{b k:Nat}{vl:Value}{xs:List Int}(hl:Is h vl xs)(hk:k<=xs.length){L:List Res}(hs:St w0 h0 (.var b 72 [vl,vI ↑k]::L) h w):
 Calls Tryz.prog 19 #[vP b 0] w (zKW w0 h0 h L (λg r q'=>∃k':Nat,∃m:Sq,q'=.var b 72 [vl,vI ↑k']/\k'<=xs.length/\yFC m/\(tSd 2 2 2 1).Is g r m)):=by
 have dc:=hl.lt63;refine cK (n:=57) (e:=[(0,vP b 0)]) (vs:=[vP b 0]) func19 rfl rfl (bL rfl) hs ⟨rfl,trivial⟩ (go2 ?_);refine nA (ρ:=(tSd 1 1 1 1)) (X:=([],([],[]))) gB (yF vC (yF vC vC)) λb2 fi cl=>(go5 ?_);refine jG (A:=[_]) (vs:=[_,vI (3)]) call13 e2z (λX w hs=>kP hl zo1 oM oM hs) I ?_;intro v9 g9 q9 cw cn;obtain⟨k9,H,rfl,ey,rfl,bk,bl⟩:=cn;refine go1 ?_;refine jG (A:=[_]) (vs:=[_,vI (3)]) call13 e2z (λX w hs=>kP hl.up zo1 oM oM hs) I ?_;intro ed fg en ci bz;obtain⟨ew,D,rfl,dl,rfl,ao,ay⟩:=bz;refine go1 ?_;refine jG (A:=[_]) (vs:=[_,vI (3)]) call13 e2z (λX w hs=>kP hl.up zo1 oM oM hs) I ?_;intro ec ff em ch bx;obtain⟨ev,C,rfl,dk,rfl,an,ax⟩:=bx;refine uK ?_;refine cL (ev3 I I I) call12 (λw hs=>tY hs oM oM oM oM oM oM) λeb h1 cv bj=>?_;replace bj:=Rp.Is.cast (y:=(pI H D C)) bj zo0;refine go3 ?_;refine jG (A:=[_]) (vs:=[_,vI (3)]) call13 e2z (λX w hs=>kP hl.up zo1 oM oM hs) I ?_;intro ea fe el cg bw;obtain⟨eu,O,rfl,dj,rfl,am,aw⟩:=bw;refine go3 ?_;refine cL (ev3 I I I) call12 (λw hs=>tY hs oM oM oM oM oM oM) λdz h2 cu bi=>?_;replace bi:=Rp.Is.cast (y:=(pI (H+1+O) D C)) bi zo0;refine go2 ?_;refine jG (A:=[_]) (vs:=[_,vI (2)]) call13 e2z (λX w hs=>kP hl.up zo1 oM oM hs) I ?_;intro dy fd ek cf bv;obtain⟨es,M,rfl,di,rfl,ak,av⟩:=bv;refine go4 ?_;refine jG (A:=[_]) (vs:=[_,vI (3)]) call13 e2z (λX w hs=>kP hl.up zo1 oM oM hs) I ?_;intro dx fc ej ce bu;obtain⟨er,J,rfl,dh,rfl,aj,au⟩:=bu;refine go2 ?_;refine cL (ev3 I I I) call12 (λw hs=>tY hs oM oM oM oM oM oM) λdw h3 ct bh=>?_;replace bh:=Rp.Is.cast (y:=(pI (H+M) (D+1+J) C)) bh zo0;refine zK (zO (ρ:=(tPt 2)) (m:=3) (xs:=[(pI H D C),(pI (H+1+O) D C),(pI (H+M) (D+1+J) C)]) (ps':=[(0,_),(1,_),(2,_)]) underlying35 yU I I I (xW (yN dC)) e6z (zG I (Pc.arr (Pc.here _) zT 0 dC) bj.up (zG I (Pc.arr (Pc.here _) zT 1 dC) bi.up (zG I (Pc.arr (Pc.here _) zT 2 dC) bh zR))) zol nP) I I I ?_
 rintro dv ei ⟨dm,rfl,bp⟩
 refine go2 ?_;refine jG (A:=[_,_]) (vs:=[_,vI (3)]) call13 e2z (λX w hs=>kP hl.up zo1 oM oM hs) I ?_;intro du fb eh cd bt;obtain⟨eq,aa,rfl,df,rfl,ai,ar⟩:=bt;refine go3 ?_;refine jG (A:=[_,_]) (vs:=[_,vI (3)]) call13 e2z (λX w hs=>kP hl.up zo1 oM oM hs) I ?_;intro dt fa eg cc bs;obtain⟨ep,Z,rfl,de,rfl,ah,aq⟩:=bs;refine go4 ?_;refine jG (A:=[_,_]) (vs:=[_,vI (3)]) call13 e2z (λX w hs=>kP hl.up zo1 oM oM hs) I ?_;intro dr ez ef cb br;obtain⟨eo,U,rfl,dd,rfl,ae,ap⟩:=br;refine go1 ?_;refine cL (ev3 I I I) call12 (λw hs=>tY hs oM oM oM oM oM oM) λdq h4 cq bg=>?_;replace bg:=Rp.Is.cast (y:=(pI (H+aa) (D+Z) (C+1+U))) bg zo0;refine yC (A:=[]) (ρ:=(tPt 2)) bp.up ?_;intro h5 cp bo;refine jJ (vs:=[_,_]) I I I I call52 e2z (λw hs=>zL9 hs bo bg.up dC (by first|omega|exact(zN7 ⟨bk,bl⟩ ⟨ao,ay⟩ ⟨an,ax⟩ ⟨am,aw⟩ ⟨ak,av⟩ ⟨aj,au⟩ ⟨ai,ar⟩ ⟨ah,aq⟩ ⟨ae,ap⟩).1)) ?_;intro dp h6 fj co ad;obtain⟨ee,da,cj,rfl,ad,rfl,db,ab⟩:=ad
 change RL (tFc (1000*2+5000) (1000*2+5000)) h6 cj (nrF (pyR [(pI H D C),(pI (H+1+O) D C),(pI (H+M) (D+1+J) C)] (pI (H+aa) (D+Z) (C+1+U)))) at ab
 replace ad:=Rp.Is.le ad (Le.p (Le.s (Le.t (Le.q (l:=4) oM))) (Le.refl _));replace ab:=(Le.p (Le.p (Le.t (Le.q (l:=7000) oM)) (Le.q (l:=7000) oM)) (Le.refl _)).rl ab;refine go3 ?_;refine nA (ρ:=(rpP (tLs 1) (rpP rpV (rpS (rpP rpI (rpP rpI (rpQ 1))))))) (X:=([],((Value.slice none 0 0),[]))) gB (yF vC (yF rO vC)) λb6 fh ck=>?_;have bm:=(Le.p (Le.s (Le.t (Le.q (l:=4) dC))) (Le.p (Le.refl _) (Le.s (Le.p (Le.refl _) (Le.p (Le.refl _) (Le.q (l:=6) dC)))))).R ck;refine yI (A:=[]) (uB sizeOf39 pH bm ad) λaz ac=>(go5 ?_);refine yC (A:=[_]) (ρ:=(tFc 7000 7000)) ab ?_;intro h7 ca bn;replace ac:=ac.mono ca;have bq:(tSd 4 7000 7000 6).R h7 az (nrP (pyR [(pI H D C),(pI (H+1+O) D C),(pI (H+M) (D+1+J) C)] (pI (H+aa) (D+Z) (C+1+U))),(nrF (pyR [(pI H D C),(pI (H+1+O) D C),(pI (H+M) (D+1+J) C)] (pI (H+aa) (D+Z) (C+1+U))),[])):=zK0 ac bn;have bf:(tSd 4 7000 7000 6).R h7 az (nrP (pyR [(pI H D C),(pI (H+1+O) D C),(pI (H+M) (D+1+J) C)] (pI (H+aa) (D+Z) (C+1+U))),nrF (pyR [(pI H D C),(pI (H+1+O) D C),(pI (H+M) (D+1+J) C)] (pI (H+aa) (D+Z) (C+1+U))),([]:List En)):=Rp.castR bq zo0;have be:(tSd 2 2 2 1).R h7 az (nrP (pyR [(pI H D C),(pI (H+1+O) D C),(pI (H+M) (D+1+J) C)] (pI (H+aa) (D+Z) (C+1+U))),nrF (pyR [(pI H D C),(pI (H+1+O) D C),(pI (H+M) (D+1+J) C)] (pI (H+aa) (D+Z) (C+1+U))),([]:List En)):=zLE bf (zQJ (zI2 (zN7 ⟨bk,bl⟩ ⟨ao,ay⟩ ⟨an,ax⟩ ⟨am,aw⟩ ⟨ak,av⟩ ⟨aj,au⟩ ⟨ai,ar⟩ ⟨ah,aq⟩ ⟨ae,ap⟩).2)).2;refine lX (xB gV pH be) λdn cm=>?_;have bb:=(Le.p (Le.s (Le.t (Le.q (l:=2) dC))) (Le.p (Le.s (Le.p (Le.p (Le.t (Le.q (l:=2) dC)) (Le.q (l:=2) dC)) (Le.refl _))) (Le.refl _))).R cl;refine yI (A:=[_]) (uB sizeOf39 pH bb cm) λcy bd=>(go3 ?_);refine uJ (fV (t:=2) gV mh1 I bd) ?_;intro cz ba bc;refine zPW (λE S=>yE I ba E S) ?_;exact⟨_,(.cons _ (.cons _ (List.Sublist.refl _))),(((((((((((((((cw.trans ci).trans ch).trans cv).trans cg).trans cu).trans cf).trans ce).trans ct).trans cd).trans cc).trans cb).trans cq).trans cp).trans co).trans ca),_,_,I,by omega,(zN7 ⟨bk,bl⟩ ⟨ao,ay⟩ ⟨an,ax⟩ ⟨am,aw⟩ ⟨ak,av⟩ ⟨aj,au⟩ ⟨ai,ar⟩ ⟨ah,aq⟩ ⟨ae,ap⟩).2,bc⟩
theorem zF6{w0:World}{h0:Mem}(hs:MLe h0 (mem w0)):
 Calls Tryz.prog 10 #[] w0 (Ret w0 h0 (λ_ r=>r=.bool true)):=by
 refine cb0 48 func10 hs ?_;refine go7 ?_;refine cL (vs:=[vI (0),vI (0),vI (0)]) e3z call12 (λw hs=>tY hs dC dC dC dC dC dC) λv9 h1 cc r9=>(cL (vs:=[vI (1),vI (1),vI (1)]) e3z call12 (λw hs=>tY hs dC dC dC dC dC dC) λbt h2 cb az=>?_);refine jJ (vs:=[_,_]) I I I I call15 e2z (λw hs=>zTS hs r9.up az dC dC (by first|omega|exact fD.b.oks|exact fD.b.snd|exactλ_=>fD.b.h)) ?_;intro bs h3 cg ca M;obtain⟨bu,bc,ad,rfl,M,rfl,bd,D⟩:=M
 change RL (tFc (10000*2+10000*2+20000) (10000*2+10000*2+20000)) h3 ad (blF (T3.mk (((0:Int):Int):Rat) (((0:Int):Int):Rat) (((0:Int):Int):Rat)) (T3.mk (((1:Int):Int):Rat) (((1:Int):Int):Rat) (((1:Int):Int):Rat))) at D
 replace M:=Rp.Is.le M (Le.p (Le.s (Le.t (Le.q (l:=48) oM))) (Le.refl _));replace D:=(Le.p (Le.p (Le.t (Le.q (l:=60000) oM)) (Le.q (l:=60000) oM)) (Le.refl _)).rl D;refine go3 ?_;refine nA (ρ:=(rpP (tLs 1) (rpP rpV (rpS (rpP rpI (rpP rpI (rpQ 1))))))) (X:=([],((Value.slice none 0 0),[]))) gB (yF vC (yF rO vC)) λb1 cf ai=>?_;have ac:=(Le.p (Le.s (Le.t (Le.q (l:=48) dC))) (Le.p (Le.refl _) (Le.s (Le.p (Le.refl _) (Le.p (Le.refl _) (Le.q (l:=6) dC)))))).R ai;refine yI (A:=[]) (uB sizeOf39 pH ac M) λO J=>(go5 ?_);refine cL (vs:=[vI (1),vI (2)]) e2z call21 (λw hs=>iJ hs dC dC dC dC) λbr h4 bb ay=>(nA (ρ:=(rpQ 1)) (X:=(0:Rat)) wB (yN dC) λb3 ce ah=>?_);have ab:=(Le.q (l:=2) dC).R ah;refine yI (A:=[]) (uB sizeOf29 pH ab ay) λbf H=>(go4 ?_);refine yC (A:=[_,_]) (ρ:=(tFc 60000 60000)) D.up ?_;intro h5 ba U;replace J:=J.mono (bb.trans ba);have aa:(tSd 48 60000 60000 6).R h5 O (blP (T3.mk (((0:Int):Int):Rat) (((0:Int):Int):Rat) (((0:Int):Int):Rat)) (T3.mk (((1:Int):Int):Rat) (((1:Int):Int):Rat) (((1:Int):Int):Rat)),(blF (T3.mk (((0:Int):Int):Rat) (((0:Int):Int):Rat) (((0:Int):Int):Rat)) (T3.mk (((1:Int):Int):Rat) (((1:Int):Int):Rat) (((1:Int):Int):Rat)),[])):=zK0 J U;have Z:(tSd 48 60000 60000 6).R h5 O (bkS (pI 0 0 0) (pI 1 1 1)):=Rp.castR aa zo0;have C:(tSd 2 2 4 0).R h5 O (bkS (pI 0 0 0) (pI 1 1 1)):=zLE Z fD.b.sm;refine lX (xB gV pH C) λbq ax=>(lX (xB yD pH H) λbp aw=>(lX (xB yD pH H) λbo av=>(lX (xB yD pH H) λbn au=>(lX (xV (ρ:=(tPt 2)) (wJ (ps':=[(0,_),(1,_),(2,_)]) underlying31 yU I I sizeOf29 e6z I (xW (yN dC)) (zG I (Pc.tx (Pc.here _)) aw (zG I (Pc.ty (Pc.here _)) av (zG I (Pc.tz (Pc.here _)) au zR))))) λbm ar=>(cL (ev2 I I) call32 (λw hs=>oL hs ax ar (by first|omega|exact fD.b.oks|exact fD.b.snd|exactλ_=>fD.b.h) (by first|omega|exact fD.b.oks|exact fD.b.snd|exactλ_=>fD.b.h) dC dC dC dC) λbl h6 bz aq=>?_)))));obtain rfl:=aq;refine go8 ?_;refine zJ 8 _ [] [(0,.q),(1,.c),(2,.c),(3,.q),(4,.q),(5,.q),(6,.q),(7,.q)] yA nX zor nX (λr hr=>hr) (wX I (xB gV pH C) λbk ap=>?_);refine w_c I (sC (vs:=[vI (2),vI (0),vI (0)]) e3z call12 (λw hs=>tY hs dC dC dC dC dC dC) λbj h7 bx ao=>?_);refine w_c I (sC (ev2 I I) call32 (λw hs=>oL hs ap.up ao (by first|omega|exact fD.b.oks|exact fD.b.snd|exactλ_=>fD.b.h) (by first|omega|exact fD.b.oks|exact fD.b.snd|exactλ_=>fD.b.h) dC dC dC dC) λbi h8 bw an=>?_);obtain rfl:=an;refine go8 ?_;refine zJ 19 _ [] [(0,.q),(1,.q),(2,.q),(3,.q),(4,.q),(5,.q),(6,.q),(7,.q),(8,.q),(9,.q),(10,.q),(11,.q),(12,.q),(13,.q),(14,.c),(15,.c),(16,.q),(17,.q),(18,.q)] yA nX (wP zor) nX (λr hr=>hr) (wC I (λ_ _=>OpV.tr (by exact fD.o1) (yY I)) I (go1 ?_));refine yS I I I (λh' L' hh hR=>yY I) I (yS I I I (λh' L' hh hR=>OpV.tr (by exact fD.w1) (rA (q:=1) I I)) I (go2 ?_));refine yS I I I (λh' L' hh hR=>OpV.tr (by exact fD.o2) (yY I)) I (go2 ?_);refine yS I I I (λh' L' hh hR=>yY I) I (yS I I I (λh' L' hh hR=>OpV.tr (by exact fD.w2) (rA (q:=0) I I)) I (go2 ?_));refine oX I (xB gV pH C) λbh am=>?_;refine w_c I (zBX I I (sC (vs:=[vI (1),vI (1),vI (1)]) e3z call12 (λw hs=>tY hs dC dC dC dC dC dC) λbg h9 bv ak=>?_));refine w_c I (zBX I I (sC (ev2 I I) call18 (λw hs=>zJQ hs am.up ak (by first|omega|exact fD.b.oks|exact fD.b.snd|exactλ_=>fD.b.h) (by first|omega|exact fD.b.oks|exact fD.b.snd|exactλ_=>fD.b.h) dC dC dC dC) λae cd be aj=>?_));obtain rfl:ae=vI (inM (tS (bkS (pI 0 0 0) (pI 1 1 1))) (T3.mk (((1:Int):Int):Rat) (((1:Int):Int):Rat) (((1:Int):Int):Rat))):=aj;refine yS I I I (λh' L' hh hR=>OpV.tr (by exact fD.i3) (rA (q:=0) I I)) I (go5 ?_);refine zC I I ?_
 rfl
end Go.Proofs.YtpkaegemlpaenaaGreat
namespace Bk
open Classical
def yFA(P:Rat->Prop):Prop:=∀x,(P x->0<=x)/\(¬P x->x<=0)
noncomputable def kq(P:Rat->Prop)(a b m n:Rat):Int:=if(¬P a/\P b)/\(0<m/\n<0) then 1 else if(P a/\¬P b)/\(m<0/\0<n) then -1 else 0
def ndR(ai aj ak bi bj bk:Rat):Prop:=∀s:Rat,0<=s->s<=1->ai+s*(bi-ai)=0->aj+s*(bj-aj)=0->¬0<=ak+s*(bk-ak)
noncomputable def zJ8(p:Prop):Int:=if p then 1 else 0
def zeS(a b:Rat):Rat:=a/(a-b)
theorem zUS{a b:Rat}(h:(a<=0/\0<=b)\/(b<=0/\0<=a))(hne:a≠b):0<=zeS a b/\zeS a b<=1/\a+zeS a b*(b-a)=0:=by
 have hd:a-b≠0:=λe=>hne zow;have e:zeS a b*(a-b)=a:=by unfold zeS;grind
 generalize zeS a b=s at *;have C:a-b<0\/0<a-b:=by grind
 refine⟨?_,?_,by grind⟩
 · refine Rat.not_lt.1 λhs=>?_
   rcases C with t|t
   · have:=xD (show 0< -s by grind) (show 0< -(a-b) by grind)
     grind
   · have:=xD (show 0< -s by grind) t
     grind
 · refine Rat.not_lt.1 λhs=>?_
   rcases C with t|t
   · have:=xD (show 0<s-1 by grind) (show 0< -(a-b) by grind)
     grind
   · have:=xD (show 0<s-1 by grind) t
     grind
theorem uE{d y:Rat}(hd:0<d):0<d*y↔0<y:=by
 constructor
 · intro h
   refine Rat.not_le.1 λe=>?_;have:=Rat.mul_le_mul_of_nonneg_left e (Rat.le_of_lt hd);grind
 · exact xD hd
def atS(a b s:Rat):Rat:=a+s*(b-a)
theorem yLZ{a b s:Rat}(h0:0<=s)(h1:s<=1)(ha:0<=a)(hb:0<=b):0<=atS a b s:=by
 have D:=zod h0 hb;have C:=zod (show 0<=1-s by grind) ha;unfold atS;grind
theorem yJH{a b s:Rat}(h0:0<=s)(h1:s<=1)(ha:a<=0)(hb:b<=0):atS a b s<=0:=by
 have D:=zod h0 (show 0<= -b by grind);have C:=zod (show 0<=1-s by grind) (show 0<= -a by grind);unfold atS;grind
theorem yLY{a b s:Rat}(hab:a<b):(0<atS a b s↔zeS a b<s)/\(atS a b s=0↔zeS a b=s):=by
 have e:zeS a b*(a-b)=a:=by unfold zeS;have:a-b≠0:=λe=>by grind
                            grind
 have C:atS a b s=(b-a)*(s-zeS a b):=by unfold atS;grind
 rw[C,uE (show 0<b-a by grind)];refine⟨by constructor<;>intro h<;>grind,λh=>?_,λh=>by rw[h];grind⟩
 rcases zoe.1 h with h|h<;>grind
theorem yL0{a b s:Rat}(hab:b<a):(0<atS a b s↔s<zeS a b)/\(atS a b s=0↔zeS a b=s):=by
 have e:zeS a b*(a-b)=a:=by unfold zeS;have:a-b≠0:=λe=>by grind
                            grind
 have C:atS a b s=(a-b)*(zeS a b-s):=by unfold atS;grind
 rw[C,uE (show 0<a-b by grind)];refine⟨by constructor<;>intro h<;>grind,λh=>?_,λh=>by rw[h];grind⟩
 rcases zoe.1 h with h|h<;>grind
section
variable {P:Rat->Prop}(hP:yFA P)
include hP
theorem zX6{a1 a2 a3 b1 b2 b3:Rat}(h:¬P a3/\P b3):a3<b3/\kq P a3 b3 (a2*b3-a3*b2) (a3*b1-a1*b3)=zJ8 (0<atS a1 b1 (zeS a3 b3)/\0<atS a2 b2 (zeS a3 b3)):=by
 have h1:=(hP a3).2 h.1;have h2:=(hP b3).1 h.2;have J:a3≠b3:=λe=>h.1 (e▸h.2);have C:a3<b3:=by grind
 refine⟨C,?_⟩;have hz:zeS a3 b3*(a3-b3)=a3:=by unfold zeS;have:a3-b3≠0:=λe=>(by grind);grind
 have O:a2*b3-a3*b2=(b3-a3)*atS a2 b2 (zeS a3 b3):=by unfold atS;grind
 have M:-(a3*b1-a1*b3)=(b3-a3)*atS a1 b1 (zeS a3 b3):=by unfold atS;grind
 have H:0<a2*b3-a3*b2↔0<atS a2 b2 (zeS a3 b3):=by rw[O,uE (show 0<b3-a3 by grind)]
 have D:a3*b1-a1*b3<0↔0<atS a1 b1 (zeS a3 b3):=by rw[<-uE (show 0<b3-a3 by grind),<-M];constructor<;>intro h<;>grind
 unfold kq zJ8
 by_cases c:0<atS a1 b1 (zeS a3 b3)/\0<atS a2 b2 (zeS a3 b3)
 · rw[if_pos c,if_pos ⟨h,H.2 c.2,D.2 c.1⟩]
 · rw[if_neg c,if_neg (λe=>c ⟨D.1 e.2.2,H.1 e.2.1⟩),if_neg λe=>h.1 e.1.1]
theorem zX8{a1 a2 a3 b1 b2 b3:Rat}(h:P a3/\¬P b3):b3<a3/\kq P a3 b3 (a2*b3-a3*b2) (a3*b1-a1*b3)= -zJ8 (0<atS a1 b1 (zeS a3 b3)/\0<atS a2 b2 (zeS a3 b3)):=by
 have h1:=(hP b3).2 h.2;have h2:=(hP a3).1 h.1;have J:a3≠b3:=λe=>h.2 (e▸h.1);have C:b3<a3:=by grind
 refine⟨C,?_⟩;have hz:zeS a3 b3*(a3-b3)=a3:=by unfold zeS;have:a3-b3≠0:=λe=>(by grind);grind
 have O:-(a2*b3-a3*b2)=(a3-b3)*atS a2 b2 (zeS a3 b3):=by unfold atS;grind
 have M:a3*b1-a1*b3=(a3-b3)*atS a1 b1 (zeS a3 b3):=by unfold atS;grind
 have H:a2*b3-a3*b2<0↔0<atS a2 b2 (zeS a3 b3):=by rw[<-uE (show 0<a3-b3 by grind),<-O];constructor<;>intro h<;>grind
 have D:0<a3*b1-a1*b3↔0<atS a1 b1 (zeS a3 b3):=by rw[M,uE (show 0<a3-b3 by grind)]
 unfold kq zJ8;rw[if_neg λe=>e.1.1 h.1]
 by_cases c:0<atS a1 b1 (zeS a3 b3)/\0<atS a2 b2 (zeS a3 b3)
 · rw[if_pos c,if_pos ⟨h,H.2 c.2,D.2 c.1⟩]
 · rw[if_neg c,if_neg λe=>c ⟨D.1 e.2.2,H.1 e.2.1⟩];rfl
omit hP in
theorem zRA{a b m n:Rat}(h:P a↔P b):kq P a b m n=0:=by
 unfold kq;rw[if_neg (λe=>e.1.1 (h.2 e.1.2)),if_neg λe=>e.1.2 (h.1 e.1.1)]
theorem zCX{a b s:Rat}(h0:0<=s)(h1:s<=1):(¬P a/\P b->(0<atS a b s↔zeS a b<s)/\(atS a b s=0↔zeS a b=s))/\(P a/\¬P b->(0<atS a b s↔s<zeS a b)/\(atS a b s=0↔zeS a b=s))/\(P a/\P b->0<=atS a b s)/\(¬P a/\¬P b->atS a b s<=0):=by
 have D:=hP a;have C:=hP b;refine⟨λh=>yLY ?_,λh=>yL0 ?_,λh=>yLZ h0 h1 (D.1 h.1) (C.1 h.2),λh=>yJH h0 h1 (D.2 h.1) (C.2 h.2)⟩
 · have H:a≠b:=λe=>h.1 (e▸h.2)
   have:=D.2 h.1;have:=C.1 h.2;grind
 · have H:a≠b:=λe=>h.2 (e▸h.1)
   have:=D.1 h.1;have:=C.2 h.2;grind
theorem zNR{a b:Rat}(h:(¬P a/\P b)\/(P a/\¬P b)):0<=zeS a b/\zeS a b<=1/\atS a b (zeS a b)=0:=by
 have H:=hP a;have D:=hP b;have C:a≠b:=λe=>by rcases h with h|h<;>rw[e] at h<;>grind
 refine zUS ?_ C
 rcases h with h|h
 · exact .inl ⟨H.2 h.1,D.1 h.2⟩
 · exact .inr ⟨D.2 h.2,H.1 h.1⟩
theorem zX7{a1 a2 a3 b1 b2 b3:Rat}(n1:ndR a2 a3 a1 b2 b3 b1)(n2:ndR a3 a1 a2 b3 b1 b2)(n3:ndR a1 a2 a3 b1 b2 b3):
 kq P a3 b3 (a2*b3-a3*b2) (a3*b1-a1*b3)+kq P a1 b1 (a3*b1-a1*b3) (a1*b2-a2*b1)+kq P a2 b2 (a1*b2-a2*b1) (a2*b3-a3*b2)=zJ8 (P b1/\P b2/\P b3)-zJ8 (P a1/\P a2/\P a3):=by
 have u1:=zX6 hP (a1:=a2) (a2:=a3) (a3:=a1) (b1:=b2) (b2:=b3) (b3:=b1);have u2:=zX6 hP (a1:=a3) (a2:=a1) (a3:=a2) (b1:=b3) (b2:=b1) (b3:=b2);have u3:=zX6 hP (a1:=a1) (a2:=a2) (a3:=a3) (b1:=b1) (b2:=b2) (b3:=b3);have d1:=zX8 hP (a1:=a2) (a2:=a3) (a3:=a1) (b1:=b2) (b2:=b3) (b3:=b1);have d2:=zX8 hP (a1:=a3) (a2:=a1) (a3:=a2) (b1:=b3) (b2:=b1) (b3:=b2);have d3:=zX8 hP (a1:=a1) (a2:=a2) (a3:=a3) (b1:=b1) (b2:=b2) (b3:=b3);have o1:=zRA (P:=P) (a:=a1) (b:=b1) (m:=a3*b1-a1*b3) (n:=a1*b2-a2*b1);have o2:=zRA (P:=P) (a:=a2) (b:=b2) (m:=a1*b2-a2*b1) (n:=a2*b3-a3*b2);have o3:=zRA (P:=P) (a:=a3) (b:=b3) (m:=a2*b3-a3*b2) (n:=a3*b1-a1*b3);have z1:=zNR hP (a:=a1) (b:=b1);have z2:=zNR hP (a:=a2) (b:=b2);have z3:=zNR hP (a:=a3) (b:=b3);have O:=λh0 h1=>zCX hP (a:=a2) (b:=b2) (s:=zeS a1 b1) h0 h1;have M:=λh0 h1=>zCX hP (a:=a3) (b:=b3) (s:=zeS a1 b1) h0 h1;have J:=λh0 h1=>zCX hP (a:=a1) (b:=b1) (s:=zeS a2 b2) h0 h1;have H:=λh0 h1=>zCX hP (a:=a3) (b:=b3) (s:=zeS a2 b2) h0 h1;have D:=λh0 h1=>zCX hP (a:=a1) (b:=b1) (s:=zeS a3 b3) h0 h1;have C:=λh0 h1=>zCX hP (a:=a2) (b:=b2) (s:=zeS a3 b3) h0 h1;have aa:(0<=zeS a1 b1/\zeS a1 b1<=1/\atS a1 b1 (zeS a1 b1)=0)->(atS a2 b2 (zeS a1 b1)=0->¬0<=atS a3 b3 (zeS a1 b1))/\(atS a3 b3 (zeS a1 b1)=0->¬0<=atS a2 b2 (zeS a1 b1)):=λh=>⟨λe=>n3 _ h.1 h.2.1 h.2.2 e,λe=>n2 _ h.1 h.2.1 e h.2.2⟩;have Z:(0<=zeS a2 b2/\zeS a2 b2<=1/\atS a2 b2 (zeS a2 b2)=0)->(atS a3 b3 (zeS a2 b2)=0->¬0<=atS a1 b1 (zeS a2 b2))/\(atS a1 b1 (zeS a2 b2)=0->¬0<=atS a3 b3 (zeS a2 b2)):=λh=>⟨λe=>n1 _ h.1 h.2.1 h.2.2 e,λe=>n3 _ h.1 h.2.1 e h.2.2⟩;have U:(0<=zeS a3 b3/\zeS a3 b3<=1/\atS a3 b3 (zeS a3 b3)=0)->(atS a1 b1 (zeS a3 b3)=0->¬0<=atS a2 b2 (zeS a3 b3))/\(atS a2 b2 (zeS a3 b3)=0->¬0<=atS a1 b1 (zeS a3 b3)):=λh=>⟨λe=>n2 _ h.1 h.2.1 h.2.2 e,λe=>n1 _ h.1 h.2.1 e h.2.2⟩;generalize kq P a1 b1 (a3*b1-a1*b3) (a1*b2-a2*b1)=K1 at *;generalize kq P a2 b2 (a1*b2-a2*b1) (a2*b3-a3*b2)=K2 at *;generalize kq P a3 b3 (a2*b3-a3*b2) (a3*b1-a1*b3)=K3 at *;generalize zeS a1 b1=t1 at *;generalize zeS a2 b2=t2 at *;generalize zeS a3 b3=t3 at *;generalize atS a2 b2 t1=y12 at *;generalize atS a3 b3 t1=y13 at *;generalize atS a1 b1 t2=y21 at *;generalize atS a3 b3 t2=y23 at *;generalize atS a1 b1 t3=y31 at *;generalize atS a2 b2 t3=y32 at *
 clear n1 n2 n3
 generalize P a1=A1 at *;generalize P a2=A2 at *;generalize P a3=A3 at *;generalize P b1=B1 at *;generalize P b2=B2 at *;generalize P b3=B3 at *;unfold zJ8 at *
 by_cases cA1:A1<;>by_cases cB1:B1<;>by_cases cA2:A2<;>by_cases cB2:B2<;>by_cases cA3:A3<;>by_cases cB3:B3<;>
  simp only[cA1,cB1,cA2,cB2,cA3,cB3,not_true_eq_false,not_false_eq_true,true_and,and_true,false_and,and_false,and_self,false_or,or_false,forall_const,true_implies,false_implies,implies_true,if_true,if_false,iff_true,iff_false] at *<;>grind
end
noncomputable def kp(d e A B:Pt):Int:=kq (λx=>0<x) (yB A d e) (yB B d e) (yB A B d) (yB A B e)
def mtR(A B d:Pt):Prop:=∃s l:Rat,0<=s/\s<=1/\0<=l/\xZ A (scT s (yO B A))=scT l d
theorem yJ3:yFA λx=>0<x:=λx=>⟨λh=>Rat.le_of_lt h,λh=>Rat.not_lt.1 h⟩
theorem yJ4:yFA λx=>0<=x:=λx=>⟨λh=>h,λh=>by grind⟩
theorem yHU{P:Rat->Prop}{a b m n m' n':Rat}(h1:0<m↔0<m')(h2:n<0↔n'<0)(h3:m<0↔m'<0)(h4:0<n↔0<n'):kq P a b m n=kq P a b m' n':=by
 unfold kq
 by_cases c1:(¬P a/\P b)/\(0<m/\n<0)
 · rw[if_pos c1,if_pos ⟨c1.1,h1.1 c1.2.1,h2.1 c1.2.2⟩]
 · rw[if_neg c1,if_neg (c:=(¬P a/\P b)/\(0<m'/\n'<0)) λe=>c1 ⟨e.1,h1.2 e.2.1,h2.2 e.2.2⟩]
   by_cases c2:(P a/\¬P b)/\(m<0/\0<n)
   · rw[if_pos c2,if_pos ⟨c2.1,h3.1 c2.2.1,h4.1 c2.2.2⟩]
   · rw[if_neg c2,if_neg (c:=(P a/\¬P b)/\(m'<0/\0<n')) λe=>c2 ⟨e.1,h3.2 e.2.1,h4.2 e.2.2⟩]
theorem zPP{a b m n r:Rat}(hr:0<r):kq (λx=>0<x) a b (r*m) (r*n)=kq (λx=>0<x) a b m n:=by
 have J:=uE (y:=m) hr;have H:=uE (y:=n) hr;have D:r*m<0↔m<0:=by have:=uE (y:=-m) hr;constructor<;>intro h<;>grind
 have C:r*n<0↔n<0:=by have:=uE (y:=-n) hr;constructor<;>intro h<;>grind
 exact yHU J C D H
theorem zPQ{a b m n r:Rat}(hr:r<0):kq (λx=>0<=x) (-a) (-b) (r*m) (r*n)= -kq (λx=>0<x) a b m n:=by
 have C:0< -r:=by grind
 have U:0<r*m↔m<0:=by have:=uE (y:=-m) C;constructor<;>intro h<;>grind
 have O:0<r*n↔n<0:=by have:=uE (y:=-n) C;constructor<;>intro h<;>grind
 have M:r*m<0↔0<m:=by have:=uE (y:=m) C;constructor<;>intro h<;>grind
 have J:r*n<0↔0<n:=by have:=uE (y:=n) C;constructor<;>intro h<;>grind
 have H:0<= -a↔¬0<a:=by constructor<;>intro h<;>grind
 have D:0<= -b↔¬0<b:=by constructor<;>intro h<;>grind
 unfold kq;simp only[U,O,M,J,H,D,Classical.not_not]
 by_cases c1:0<a/\¬0<b
 · have c2:¬(¬0<a/\0<b):=λe=>e.1 c1.1
   simp only[c1,c2,not_true_eq_false,not_false_eq_true,and_self,true_and,false_and,and_false,if_false]
   split<;>rfl
 · by_cases c2:¬0<a/\0<b
   · simp only[c2,not_true_eq_false,not_false_eq_true,and_self,true_and,false_and,and_false,if_false]
     split<;>rfl
   · simp only[c1,c2,false_and,if_false];rfl
section
variable (A B d e g:Pt)
theorem pl_1:yB A g d*yB B d e-yB A d e*yB B g d=yB d e g*yB A B d:=by
 unfold yB zE zY;grind
theorem pl_2:yB A d e*yB B e g-yB A e g*yB B d e=yB d e g*yB A B e:=by
 unfold yB zE zY;grind
theorem pl_3:yB A e g*yB B g d-yB A g d*yB B e g=yB d e g*yB A B g:=by
 unfold yB zE zY;grind
theorem zCO(s:Rat):yB (xZ A (scT s (yO B A))) d e=yB A d e+s*(yB B d e-yB A d e):=by
 unfold yB zE zY xZ scT yO;grind
theorem yIV(Y:Pt):scT (yB d e g) Y=xZ (xZ (scT (yB Y e g) d) (scT (yB Y g d) e)) (scT (yB Y d e) g):=by
 unfold yB zE zY xZ scT
 congr 1<;>grind
end
theorem zWG{d e g Y:Pt}(hD:yB d e g≠0)(h2:yB Y g d=0)(h3:yB Y d e=0):Y=scT (yB Y e g/yB d e g) d:=by
 have h:=yIV d e g Y;rw[h2,h3] at h;generalize yB d e g=D at *;generalize yB Y e g=t at *;rw[qS] at h ⊢;obtain⟨J,H,C⟩:=h;unfold scT xZ at *;simp only at J H C ⊢;exact⟨by grind,by grind,by grind⟩
theorem zXO{A B d e g:Pt}(hD:yB d e g≠0)(hn:¬mtR A B d):(0<yB d e g->ndR (yB A g d) (yB A d e) (yB A e g) (yB B g d) (yB B d e) (yB B e g))/\(yB d e g<0->ndR (-yB A g d) (-yB A d e) (-yB A e g) (-yB B g d) (-yB B d e) (-yB B e g)):=by
 constructor
 · intro C s h0 h1 M J H
   refine hn ⟨s,_,h0,h1,?_,zWG (Y:=xZ A (scT s (yO B A))) hD ?_ ?_⟩
   · rw[zCO]
     generalize yB A e g+s*(yB B e g-yB A e g)=t at *;rw[Rat.div_def];exact zod H (Rat.le_of_lt (Rat.inv_pos.2 C))
   · rw[zCO];exact M
   · rw[zCO];exact J
 · intro C s h0 h1 M J H
   refine hn ⟨s,_,h0,h1,?_,zWG (Y:=xZ A (scT s (yO B A))) hD ?_ ?_⟩
   · rw[zCO]
     have U:0<= -(yB A e g+s*(yB B e g-yB A e g)):=by grind
     generalize yB A e g+s*(yB B e g-yB A e g)=t at *;generalize yB d e g=D at *;have O:t/D*D=t:=by grind
     refine Rat.not_lt.1 λh=>?_;have:=xD (show 0< -(t/D) by grind) (show 0< -D by grind);grind
   · rw[zCO];grind
   · rw[zCO];grind
noncomputable def zTE(d e g X:Pt):Int:=if 0<yB d e g then zJ8 (0<yB X e g/\0<yB X g d/\0<yB X d e) else -zJ8 (0<= -yB X e g/\0<= -yB X g d/\0<= -yB X d e)
theorem yHV{A B d e g:Pt}(hD:yB d e g≠0)(h1:¬mtR A B d)(h2:¬mtR A B e)(h3:¬mtR A B g):kp d e A B+kp e g A B+kp g d A B=zTE d e g B-zTE d e g A:=by
 have r1:yB e g d=yB d e g:=by unfold yB zE zY;grind
 have r2:yB g d e=yB d e g:=by unfold yB zE zY;grind
 have U:=zXO hD h1;have H:=zXO (r1▸hD) h2;have D:=zXO (r2▸hD) h3;rw[r1] at H;rw[r2] at D;have O:=pl_1 A B d e g;have M:=pl_2 A B d e g;have J:=pl_3 A B d e g;have C:0<yB d e g\/yB d e g<0:=by grind
 unfold zTE
 rcases C with hp|hp
 · have h:=zX7 yJ3 (U.1 hp) (H.1 hp) (D.1 hp)
   rw[O,M,J,zPP hp,zPP hp,zPP hp] at h;rw[if_pos hp,if_pos hp];exact h
 · have Z:¬0<yB d e g:=λe=>by grind
   have h:=zX7 yJ4 (U.2 hp) (H.2 hp) (D.2 hp);have m:∀x y:Rat,-x*-y=x*y:=λx y=>by grind
   rw[m,m,m,m,m,m,O,M,J,zPQ hp,zPQ hp,zPQ hp] at h;rw[if_neg Z,if_neg Z];unfold kp;omega
abbrev EL:=List (Pt×Pt)
noncomputable def kE(d e:Pt):EL->Int
  |[]=>0
  |x::r=>kp d e x.1 x.2+kE d e r
def dfE(f:Pt->Int):EL->Int
  |[]=>0
  |x::r=>f x.2-f x.1+dfE f r
def dU(E:EL):Prop:=∀f:Pt->Int,dfE f E=0
def eM(E:EL)(d:Pt):Prop:=∀x,x∈E->¬mtR x.1 x.2 d
def zMX(N:Pt)(h:Rat)(E:EL):Prop:=∀x,x∈E->zE N x.1=h/\zE N x.2=h
theorem zA2{d e:Pt}:∀{E:EL},(∀x,x∈E->kp d e x.1 x.2=0)->kE d e E=0
  |[],_=>rfl
  |x::r,h=>by
   show kp d e x.1 x.2+kE d e r=0
   rw[h x (.head _),zA2 λy hy=>h y (.tail _ hy)];rfl
theorem zF7{d e d' e':Pt}{m:Pt->Pt}:∀{E:EL},(∀x,x∈E->kp d e x.1 x.2=kp d' e' (m x.1) (m x.2))->kE d e E=kE d' e' (E.map λx=>(m x.1,m x.2))
  |[],_=>rfl
  |x::r,h=>by
   show kp d e x.1 x.2+kE d e r=kp d' e' (m x.1) (m x.2)+kE d' e' (r.map _)
   rw[h x (.head _),zF7 λy hy=>h y (.tail _ hy)]
theorem cY(d e:Pt):∀E F:EL,kE d e (E++F)=kE d e E+kE d e F
  |[],F=>by show _=0+_;rw[Int.zero_add];rfl
  |x::r,F=>by
   show kp d e x.1 x.2+kE d e (r++F)=kp d e x.1 x.2+kE d e r+_
   rw[cY d e r F];omega
theorem zYB{d e g:Pt}(hD:yB d e g≠0){E:EL}(hc:dU E)(h1:eM E d)(h2:eM E e)(h3:eM E g):kE d e E+kE e g E+kE g d E=0:=by
 have aux:∀E:EL,eM E d->eM E e->eM E g->kE d e E+kE e g E+kE g d E=dfE (zTE d e g) E:=by
  intro E
  induction E with
  |nil=>intro _ _ _;rfl
  |cons x r ih=>
   intro h1 h2 h3;have:=yHV hD (h1 x (.head _)) (h2 x (.head _)) (h3 x (.head _));have:=ih (λy hy=>h1 y (.tail _ hy)) (λy hy=>h2 y (.tail _ hy)) (λy hy=>h3 y (.tail _ hy))
   show kp d e x.1 x.2+kE d e r+(kp e g x.1 x.2+kE e g r)+(kp g d x.1 x.2+kE g d r)=zTE d e g x.2-zTE d e g x.1+dfE _ r
   omega
 rw[aux E h1 h2 h3];exact hc _
theorem zQI(x:Rat):0<=x*x:=by
 rcases(show x<=0\/0<=x by grind) with h|h
 · have:=zod (show 0<= -x by grind) (show 0<= -x by grind);grind
 · exact zod h h
theorem nN{N:Pt}(h:N≠zT):0<zE N N:=by
 obtain⟨x,y,z⟩:=N;have h1:=zQI x;have h2:=zQI y;have h3:=zQI z;unfold zE;refine Rat.not_le.1 λe=>h ?_;have C:∀t:Rat,t*t=0->t=0:=λt e=>(zoe.1 e).elim id id;have J:=C x zow;have H:=C y zow;have D:=C z zow;rw[J,H,D]
theorem cF{N:Pt}(h:N≠zT):zE N N≠0:=λe=>absurd (nN h) (by rw[e];decide)
section
variable {N A B e e' d:Pt}{h:Rat}
theorem zKO(he:zE N e=0)(he':zE N e'=0):zE N N*yB A e e'=zE N A*yB N e e':=by
 have:zE N N*yB A e e'-zE N A*yB N e e'=zE N e'*zE (zY N A) e-zE N e*zE (zY N A) e':=by
  unfold yB zE zY;grind
 rw[he,he'] at this;grind
theorem zY8(hN:N≠zT)(he:zE N e=0)(he':zE N e'=0)(hA:zE N A=h)(hB:zE N B=h):yB A e e'=yB B e e':=by
 have h1:=zKO (A:=A) he he';have h2:=zKO (A:=B) he he';rw[hA] at h1;rw[hB,<-h1] at h2;have h3:=cF hN;generalize zE N N=n at *;have C:n*(yB B e e'-yB A e e')=0:=by grind
 have:=(zoe.1 C).resolve_left h3;grind
theorem zRB(hN:N≠zT)(he:zE N e=0)(he':zE N e'=0)(hA:zE N A=h)(hB:zE N B=h):kp e e' A B=0:=by
 unfold kp;rw[zY8 hN he he' hA hB];exact zRA Iff.rfl
theorem zCN(s:Rat):zE N (xZ A (scT s (yO B A)))=zE N A+s*(zE N B-zE N A):=by
 unfold zE xZ scT yO;grind
theorem zGH(l:Rat):zE N (scT l d)=l*zE N d:=by unfold zE scT;grind
theorem yDY(hA:zE N A=h)(hB:zE N B=h)(hm:mtR A B d):∃l,0<=l/\h=l*zE N d:=by
 obtain⟨s,l,h0,h1,C,e⟩:=hm;have:=congrArg (zE N) e;rw[zCN,zGH,hA,hB] at this;exact⟨l,C,by grind⟩
end
theorem zJW{N e:Pt}{h:Rat}{E:EL}(hE:zMX N h E)(hh:h≠0)(he:zE N e=0):eM E e:=λx hx hm=>by
 obtain⟨l,_,e1⟩:=yDY (hE x hx).1 (hE x hx).2 hm;rw[he,Rat.mul_zero] at e1;exact hh e1
theorem zJ6{N e e':Pt}{h:Rat}{E:EL}(hN:N≠zT)(hE:zMX N h E)(he:zE N e=0)(he':zE N e'=0):kE e e' E=0:=zA2 λx hx=>zRB hN he he' (hE x hx).1 (hE x hx).2
section
variable {N d e e':Pt}{h:Rat}{E:EL}(hN:N≠zT)(hc:dU E)(hE:zMX N h E)(hh:h≠0)(hd:eM E d)
include hN hc hE hh hd
theorem zCF(hcd:zE N d≠0)(he:zE N e=0)(he':zE N e'=0)(hi:yB N e e'≠0):kE d e E= -kE e' d E:=by
 have C:yB d e e'≠0:=λe0=>by
  have:=zKO (A:=d) he he';rw[e0,Rat.mul_zero] at this;exact(zoe.1 this.symm).elim hcd hi
 have h1:=zYB C hc hd (zJW hE hh he) (zJW hE hh he');have h2:=zJ6 hN hE he he';omega
omit hc hE hh hd in
theorem yDK(he:zE N e=0)(he':zE N e'=0)(z:e≠zT)(z':e'≠zT):∃g,zE N g=0/\yB N e g≠0/\yB N e' g≠0:=by
 by_cases hi:yB N e e'=0
 · refine⟨zY N e,by unfold zE zY;grind,?_,?_⟩
   · have:yB N e (zY N e)=zE N N*zE e e-zE N e*zE N e:=by unfold yB zE zY;grind
     rw[this,he];intro e0;have:zE N N*zE e e=0:=by grind
     exact(zoe.1 this).elim (cF hN) (cF z)
   · have h1:yB N e' (zY N e)=zE N N*zE e e'-zE N e*zE N e':=by unfold yB zE zY;grind
     rw[h1,he,Rat.zero_mul];intro e0;have h2:zE e e'=0:=(zoe.1 (show zE N N*zE e e'=0 by grind)).resolve_left (cF hN);have h3:zE N N*(zE e e*zE e' e'-zE e e'*zE e e')=yB N e e'*yB N e e'+(zE N e*(zE N e*zE e' e'-zE N e'*zE e e')+zE N e'*(zE N e'*zE e e-zE N e*zE e e')):=by unfold yB zE zY;grind
     rw[h2,hi,he,he'] at h3;have C:zE N N*(zE e e*zE e' e')=0:=by grind
     rcases zoe.1 C with h|h
     · exact cF hN h
     · exact(zoe.1 h).elim (cF z) (cF z')
 · refine⟨xZ e e',by unfold zE xZ at *;grind,?_,?_⟩
   · have:yB N e (xZ e e')=yB N e e':=by unfold yB zE zY xZ;grind
     rw[this];exact hi
   · have:yB N e' (xZ e e')= -yB N e e':=by unfold yB zE zY xZ;grind
     rw[this];intro e0;exact hi zow
theorem zCG(hcd:zE N d≠0)(he:zE N e=0)(he':zE N e'=0)(z:e≠zT)(z':e'≠zT):kE d e E=kE d e' E/\kE e' d E= -kE d e E:=by
 obtain⟨g,C,H,J⟩:=yDK hN he he' z z';have a1:=zCF hN hc hE hh hd hcd he C H;have a2:=zCF hN hc hE hh hd hcd he' C J;have i3:yB N g e'≠0:=by
  have:yB N g e'= -yB N e' g:=by unfold yB zE zY;grind
  rw[this];intro e0;exact J zow
 have Z:yB N g e≠0:=by
  have:yB N g e= -yB N e g:=by unfold yB zE zY;grind
  rw[this];intro e0;exact H zow
 have a3:=zCF hN hc hE hh hd hcd C he' i3;have M:g≠zT:=λe0=>H (by rw[e0];unfold yB zE zY;grind);have a4:=zCF hN hc hE hh hd hcd C he Z;obtain⟨g2,D,U,O⟩:=yDK hN he C z M;have b1:=zCF hN hc hE hh hd hcd he D U;have b2:=zCF hN hc hE hh hd hcd C D O;exact⟨by omega,by omega⟩
theorem yCC{G:Pt}(hG:eM E G)(hcG:zE N G≠0)(hr:xZ (scT (zE N d) G) (scT (-zE N G) d)≠zT)(he:zE N e=0)(z:e≠zT):kE d G E=kE d e E-kE G e E:=by
 generalize C:xZ (scT (zE N d) G) (scT (-zE N G) d)=r at hr;have D:zE N (zY N r)=0:=by unfold zE zY;grind
 have M:yB d G (zY N r)=zE r r:=by
  rw[<-C];unfold yB zE zY xZ scT;grind
 have H:zE N r=0:=by rw[<-C];unfold zE xZ scT;grind
 have J:zY N r≠zT:=λe0=>by
  have h1:zE (zY N r) (zY N r)=zE N N*zE r r-zE N r*zE N r:=by unfold zE zY;grind
  rw[e0,H] at h1;have h2:zE N N*zE r r=0:=by
   have:zE zT zT=0:=by show(0:Rat)*0+0*0+0*0=0;grind
   grind
  exact(zoe.1 h2).elim (cF hN) (cF hr)
 have h1:=zYB (by rw[M];exact cF hr) hc hd hG (zJW hE hh D);have h2:=(zCG hN hc hE hh hG hcG D he J z).1
 by_cases hcd:zE N d=0
 · have h3:=zJ6 hN hE D hcd
   have O:=zJ6 hN hE hcd he;omega
 · have h3:=(zCG hN hc hE hh hd hcd he D z J).2
   omega
end
noncomputable def c2Z(u v q:P2):Int:=if uO u v q then(if u.2<=q.2 then 1 else -1) else 0
noncomputable def nkN(n:Pt):Rat:=if 0<n.z then n.z else if n.z<0 then -n.z else if 0<n.y then n.y else if n.y<0 then -n.y else if 0<n.x then n.x else -n.x
noncomputable def eN(n:Pt):Pt:=if 0<n.z then T3.mk n.z 0 (-n.x) else if n.z<0 then T3.mk 0 (-n.z) n.y else if 0<n.y then T3.mk 0 (-n.z) n.y else if n.y<0 then T3.mk (-n.y) n.x 0 else if 0<n.x then T3.mk (-n.y) n.x 0 else T3.mk n.z 0 (-n.x)
section
variable {N:Pt}(hN:N≠zT)
include hN
theorem six{M:Nat->Nat->Rat->Pt->Prop}(h1:0<N.z->M 0 1 N.z (T3.mk N.z 0 (-N.x)))(h2:N.z<0->M 1 0 (-N.z) (T3.mk 0 (-N.z) N.y))(h3:N.z=0->0<N.y->M 2 0 N.y (T3.mk 0 (-N.z) N.y))(h4:N.z=0->N.y<0->M 0 2 (-N.y) (T3.mk (-N.y) N.x 0))(h5:N.z=0->N.y=0->0<N.x->M 1 2 N.x (T3.mk (-N.y) N.x 0))(h6:N.z=0->N.y=0->N.x<0->M 2 1 (-N.x) (T3.mk N.z 0 (-N.x))):
 M (axI N) (axJ N) (nkN N) (eN N):=by
 unfold axI axJ nkN eN
 by_cases c1:0<N.z
 · simp only[if_pos c1];exact h1 c1
 · by_cases c2:N.z<0
   · simp only[if_neg c1,if_pos c2];exact h2 c2
   · have C:N.z=0:=by grind
     by_cases c3:0<N.y
     · simp only[if_neg c1,if_neg c2,if_pos c3];exact h3 C c3
     · by_cases c4:N.y<0
       · simp only[if_neg c1,if_neg c2,if_neg c3,if_pos c4];exact h4 C c4
       · have D:N.y=0:=by grind
         by_cases c5:0<N.x
         · simp only[if_neg c1,if_neg c2,if_neg c3,if_neg c4,if_pos c5];exact h5 C D c5
         · have H:N.x<0:=by
            refine Rat.not_le.1 λe=>hN ?_;rw[qS];exact⟨by show N.x=0;grind,D,C⟩
           simp only[if_neg c1,if_neg c2,if_neg c3,if_neg c4,if_neg c5,if_pos H];exact h6 C D H
theorem zIM:0<nkN N/\zE N (eN N)=0/\eN N≠zT:=by
 refine six hN (M:=λi j C e=>0<C/\zE N e=0/\e≠zT) (λh=>⟨h,?_,λe=>?_⟩) (λh=>⟨by grind,?_,λe=>?_⟩) (λz h=>⟨h,?_,λe=>?_⟩) (λz h=>⟨by grind,?_,λe=>?_⟩) (λz y h=>⟨h,?_,λe=>?_⟩) (λz y h=>⟨by grind,?_,λe=>?_⟩)
 any_goals (unfold zE;grind)
 · have:=congrArg T3.x e;simp only at this;have:N.z=0:=this;grind
 · have:=congrArg T3.y e;simp only at this;have:-N.z=0:=this;grind
 · have:=congrArg T3.z e;simp only at this;have:N.y=0:=this;grind
 · have:=congrArg T3.x e;simp only at this;have:-N.y=0:=this;grind
 · have:=congrArg T3.y e;simp only at this;have:N.x=0:=this;grind
 · have:=congrArg T3.z e;simp only at this;have:-N.x=0:=this;grind
theorem yLI{A d:Pt}{h c:Rat}(hA:zE N A=h)(hd:zE N d=c):yB A d (eN N)=c*A.at (axJ N)-h*d.at (axJ N):=by
 subst hA hd;refine six hN (M:=λi j C e=>yB A d e=zE N d*A.at j-zE N A*d.at j) (λh=>?_) (λh=>?_) (λz h=>?_) (λz h=>?_) (λz y h=>?_) (λz y h=>?_)
 all_goals (unfold yB zE zY;simp only[T3.at];grind)
theorem eN_o{A B d:Pt}{h c t:Rat}(hA:zE N A=h)(hB:zE N B=h)(hd:zE N d=c)(ht:t*c=h):c*cr (pr A (axI N) (axJ N)) (pr B (axI N) (axJ N)) (pr (scT t d) (axI N) (axJ N))=nkN N*yB A B d:=by
 refine six hN (M:=λi j C e=>c*cr (pr A i j) (pr B i j) (pr (scT t d) i j)=C*yB A B d) (λh=>?_) (λh=>?_) (λz h=>?_) (λz h=>?_) (λz y h=>?_) (λz y h=>?_)
 all_goals (unfold yB zE zY cr pr scT at *;simp only[T3.at];grind)
end
theorem yIP{N A B d e:Pt}{h c:Rat}(hA:zE N A=h)(hB:zE N B=h)(hd:zE N d=c)(he:zE N e=0):c*yB A B e= -h*(yB B d e-yB A d e):=by
 unfold yB zE zY at *;grind
theorem yLS{N A B d:Pt}{h c t:Rat}(hN:N≠zT)(hA:zE N A=h)(hB:zE N B=h)(hd:zE N d=c)(ht:0<t)(htc:t*c=h)(hc:c≠0):
 (0<c->c2Z (pr A (axI N) (axJ N)) (pr B (axI N) (axJ N)) (pr (scT t d) (axI N) (axJ N))=kp d (eN N) A B)/\(c<0->c2Z (pr A (axI N) (axJ N)) (pr B (axI N) (axJ N)) (pr (scT t d) (axI N) (axJ N))=kp (eN N) d A B):=by
 obtain⟨M,he,_⟩:=zIM hN;have a1:=yLI hN hA hd;have b1:=yLI hN hB hd;have o1:=eN_o hN hA hB hd htc;have s1:=yIP (A:=A) (B:=B) hA hB hd he;have e1:yB A (eN N) d= -yB A d (eN N):=by unfold yB zE zY;grind
 have e2:yB B (eN N) d= -yB B d (eN N):=by unfold yB zE zY;grind
 have D:(pr (scT t d) (axI N) (axJ N)).2=t*d.at (axJ N):=by
  unfold pr scT;generalize axJ N=j
  match j with
  |0=>rfl
  |1=>rfl
  |_+2=>rfl
 have hu:(pr A (axI N) (axJ N)).2=A.at (axJ N):=I;have hv:(pr B (axI N) (axJ N)).2=B.at (axJ N):=I;unfold c2Z uO orZ kp;rw[D,hu,hv,e1,e2,a1,b1];rw[a1,b1] at s1;simp only[aF,qZ];generalize cr (pr A (axI N) (axJ N)) (pr B (axI N) (axJ N)) (pr (scT t d) (axI N) (axJ N))=o at *;generalize A.at (axJ N)=x at *;generalize B.at (axJ N)=y at *;generalize d.at (axJ N)=z at *;generalize yB A B d=m at *;generalize yB A B (eN N)=n at *;generalize nkN N=k at *;subst htc
 -- n = -(t) * c * (y - x)
 have hn:n= -(t*c)*(y-x):=by
  have:c*(n- -(t*c)*(y-x))=0:=by grind
  have:=(zoe.1 this).resolve_left hc;grind
 have ax:c*x-t*c*z=c*(x-t*z):=by grind
 have bx:c*y-t*c*z=c*(y-t*z):=by grind
 rw[ax,bx];generalize hz:t*z=w at *;have go:∀(p q r s:Prop) {_:Decidable p} {_:Decidable q} {_:Decidable r} {_:Decidable s},(p↔q\/r)->(q->s)->(r->¬s)->(if p then(if s then(1:Int) else -1) else 0)=if q then 1 else if r then -1 else 0:=by
  intro p q r s _ _ _ _ h1 h2 h3
  by_cases D:q
  · rw[if_pos (h1.2 (.inl D)),if_pos (h2 D),if_pos D]
  · by_cases hr:r
    · rw[if_pos (h1.2 (.inr hr)),if_neg (h3 hr),if_neg D,if_pos hr]
    · rw[if_neg (λe=>(h1.1 e).elim D hr),if_neg D,if_neg hr]
 constructor
 · intro J
   have H:0<c*(x-w)↔w<x:=by rw[uE J];constructor<;>intro h<;>grind
   have f2:0<c*(y-w)↔w<y:=by rw[uE J];constructor<;>intro h<;>grind
   have f3:0<m↔0<o:=by rw[<-uE M,<-o1,uE J]
   have Z:m<0↔o<0:=by
    have:=uE (y:=-m) M;have:=uE (y:=-o) J;constructor<;>intro h<;>grind
   have htc:=xD ht J;have U:n<0↔x<y:=by
    have:=uE (y:=y-x) htc;constructor<;>intro h<;>grind
   have O:0<n↔y<x:=by
    have:=uE (y:=x-y) htc;constructor<;>intro h<;>grind
   unfold kq;refine go _ _ _ _ ?_ ?_ ?_
   · simp only[H,f2,f3,Z,U,O]
     constructor<;>intro h<;>grind
   · simp only[H];intro h;grind
   · simp only[H];intro h;grind
 · intro J
   have C:0< -c:=by grind
   have H:0< -(c*(x-w))↔w<x:=by rw[show -(c*(x-w))= -c*(x-w) by grind,uE C];constructor<;>intro h<;>grind
   have f2:0< -(c*(y-w))↔w<y:=by rw[show -(c*(y-w))= -c*(y-w) by grind,uE C];constructor<;>intro h<;>grind
   have f3:m<0↔0<o:=by
    have:=uE (y:=-m) M;have:=uE (y:=o) C;constructor<;>intro h<;>grind
   have Z:0<m↔o<0:=by
    have:=uE (y:=m) M;have:=uE (y:=-o) C;constructor<;>intro h<;>grind
   have htc:=xD ht C;have U:0<n↔x<y:=by
    have:=uE (y:=y-x) htc;constructor<;>intro h<;>grind
   have O:n<0↔y<x:=by
    have:=uE (y:=x-y) htc;constructor<;>intro h<;>grind
   unfold kq;refine go _ _ _ _ ?_ ?_ ?_
   · simp only[H,f2,f3,Z,U,O]
     constructor<;>intro h<;>grind
   · simp only[H];intro h;grind
   · simp only[H];intro h;grind
theorem yLR{u v q u' v' q':P2}(h1:u.2<=q.2↔u'.2<=q'.2)(h2:v.2<=q.2↔v'.2<=q'.2)(h3:orZ u v q=orZ u' v' q'):c2Z u v q=c2Z u' v' q':=by
 have hc:uO u v q↔uO u' v' q':=by unfold uO;rw[h1,h2,h3]
 unfold c2Z
 by_cases e:uO u v q
 · rw[if_pos e,if_pos (hc.1 e)]
   by_cases e2:u.2<=q.2
   · rw[if_pos e2,if_pos (h1.1 e2)]
   · rw[if_neg e2,if_neg λe'=>e2 (h1.2 e')]
 · rw[if_neg e,if_neg λe'=>e (hc.2 e')]
theorem zNK{u v q:P2}(s:P2):c2Z (u.1+s.1,u.2+s.2) (v.1+s.1,v.2+s.2) (q.1+s.1,q.2+s.2)=c2Z u v q:=by
 have h1:∀x y z:Rat,x+z<=y+z↔x<=y:=λx y z=>by constructor<;>intro h<;>grind
 have h2:orZ (u.1+s.1,u.2+s.2) (v.1+s.1,v.2+s.2) (q.1+s.1,q.2+s.2)=orZ u v q:=by
  unfold orZ cr
  congr 1
  grind
 exact yLR (h1 _ _ _) (h1 _ _ _) h2
def nV(p:Pt)(l:List Pt):Nat->EL:=qG λm=>(yO (gp l m) p,yO (gp l ((m+1)%l.length)) p)
def nW(p:Pt)(L:List (List Pt)):Nat->EL:=tN λm=>nV p (gl L m) (gl L m).length
theorem k8(f:Pt->Int):∀E F:EL,dfE f (E++F)=dfE f E+dfE f F
  |[],F=>by show _=0+_;rw[Int.zero_add];rfl
  |x::r,F=>by
   show f x.2-f x.1+dfE f (r++F)=f x.2-f x.1+dfE f r+_
   rw[k8 f r F];omega
theorem yD8(f:Pt->Int)(p:Pt)(l:List Pt):∀m,m<=l.length->dfE f (nV p l m)=f (yO (gp l (m%l.length)) p)-f (yO (gp l 0) p)
  |0,_=>by rw[Nat.zero_mod];show(0:Int)=_;omega
  |m+1,h=>by
   have ih:=yD8 f p l m zoq;rw[zoh (show m<l.length by omega)] at ih
   show dfE f (nV p l m++[(yO (gp l m) p,yO (gp l ((m+1)%l.length)) p)])=_
   rw[k8,ih]
   show _+(f (yO (gp l ((m+1)%l.length)) p)-f (yO (gp l m) p)+0)=_
   omega
theorem zZI(p:Pt)(l:List Pt):dU (nV p l l.length):=λf=>by
 rw[yD8 f p l _ (Nat.le_refl _),Nat.mod_self];omega
theorem iT(p:Pt)(L:List (List Pt)):∀n,dU (nW p L n)
  |0=>λ_=>rfl
  |n+1=>λf=>by
   show dfE f (nW p L n++nV p (gl L n) (gl L n).length)=0
   rw[k8,iT p L n f,zZI p _ f];rfl
theorem zMK{α:Type}{g:Nat->α}{x:α}:∀{n},x∈qG g n->∃m,m<n/\x=g m
  |0,h=>by cases h
  |n+1,h=>by
   have h':x∈qG g n++[g n]:=h;rw[List.mem_append] at h'
   rcases h' with h'|h'
   · obtain⟨m,hm,e⟩:=zMK h'
     exact⟨m,by omega,e⟩
   · exact⟨n,by omega,by simpa using h'⟩
theorem zIB{α:Type}{g:Nat->List α}{x:α}:∀{n},x∈tN g n->∃m,m<n/\x∈g m
  |0,h=>by cases h
  |n+1,h=>by
   have h':x∈tN g n++g n:=h;rw[List.mem_append] at h'
   rcases h' with h'|h'
   · obtain⟨m,hm,e⟩:=zIB h'
     exact⟨m,by omega,e⟩
   · exact⟨n,by omega,h'⟩
theorem zAW{p:Pt}{L:List (List Pt)}{x:Pt×Pt}(h:x∈nW p L L.length):∃l k,l<L.length/\k<(gl L l).length/\x=(yO (gp (gl L l) k) p,yO (gp (gl L l) ((k+1)%(gl L l).length)) p):=by
 obtain⟨l,C,h⟩:=zIB h;obtain⟨k,hk,h⟩:=zMK h;exact⟨l,k,C,hk,h⟩
noncomputable def wnT(l:List Pt)(q:P2)(i j:Nat):Nat->Int
  |0=>0
  |m+1=>wnT l q i j m+c2Z (wV l i j m) (wU l i j m) q
noncomputable def wnF(L:List (List Pt))(q:P2)(i j:Nat):Nat->Int
  |0=>0
  |m+1=>wnF L q i j m+wnT (gl L m) q i j (gl L m).length
theorem zW6(l:List Pt)(q:P2)(i j:Nat):∀m,jD l q i j m↔wnT l q i j m%2=1
  |0=>by show False↔(0:Int)%2=1;exact⟨False.elim,λe=>absurd e zot⟩
  |m+1=>by
   have ih:=zW6 l q i j m
   show((uO _ _ _/\¬jD _ _ _ _ m)\/(¬uO _ _ _/\jD _ _ _ _ m))↔(wnT l q i j m+c2Z (wV l i j m) (wU l i j m) q)%2=1
   rw[ih];unfold c2Z
   by_cases h:uO (wV l i j m) (wU l i j m) q
   · rw[if_pos h]
     constructor
     · rintro(e|e)
       · split<;>omega
       · exact absurd h e.1
     · intro e
       refine .inl ⟨h,?_⟩
       split at e<;>omega
   · rw[if_neg h]
     constructor
     · rintro(e|e)
       · exact absurd e.1 h
       · omega
     · intro e;exact .inr ⟨h,by omega⟩
theorem yDF(L:List (List Pt))(q:P2)(i j:Nat):∀m,(∀k,k<m->gA (gl L k) q i j≠0)->eU L q i j m=if wnF L q i j m%2=1 then 1 else -1
  |0,_=>rfl
  |m+1,h=>by
   have ih:=yDF L q i j m λk hk=>h k zoq;have hm:=h m zoq;have ho:=zW6 (gl L m) q i j (gl L m).length;have h1:gA (gl L m) q i j=1↔wnT (gl L m) q i j (gl L m).length%2=1:=by
    rw[<-ho];unfold gA at hm ⊢
    split
    · rename_i e;rw[if_pos e] at hm;exact absurd I hm
    · split
      · rename_i e;exact⟨λ_=>e,λ_=>I⟩
      · rename_i e;exact⟨λe'=>absurd e' zot,λe'=>absurd e' e⟩
   show(if gA (L.getD m []) q i j=1 then -(eU L q i j m) else eU L q i j m)=_
   rw[ih]
   show _=if(wnF L q i j m+wnT (gl L m) q i j (gl L m).length)%2=1 then(1:Int) else -1
   by_cases e:gA (L.getD m []) q i j=1
   · have C:=h1.1 e
     rw[if_pos e]
     by_cases e3:wnF L q i j m%2=1
     · rw[if_pos e3,if_neg zoq]
     · rw[if_neg e3,if_pos zoq];rfl
   · have C:¬wnT (gl L m) q i j (gl L m).length%2=1:=λe'=>e (h1.2 e')
     rw[if_neg e]
     by_cases e3:wnF L q i j m%2=1
     · rw[if_pos e3,if_pos zoq]
     · rw[if_neg e3,if_neg zoq]
theorem yEV{L:List (List Pt)}{q:P2}{i j:Nat}(h:whZ L q i j≠0):whZ L q i j=if wnF L q i j L.length%2=1 then 1 else -1:=by
 unfold whZ at h ⊢
 split
 · rename_i e;rw[if_pos e] at h;exact absurd I h
 · rename_i e
   exact yDF L q i j _ λk hk e'=>e ⟨k,hk,e'⟩
section
variable {N p d:Pt}{h c t:Rat}{i j:Nat}
theorem zWM(p:Pt)(X:Pt)(i j:Nat):pr (xZ p X) i j=((pr X i j).1+(pr p i j).1,(pr X i j).2+(pr p i j).2):=by
 have e:∀k,(xZ p X).at k=X.at k+p.at k:=λk=>by
  unfold xZ
  match k with
  |0=>show p.x+X.x=X.x+p.x;grind
  |1=>show p.y+X.y=X.y+p.y;grind
  |_+2=>show p.z+X.z=X.z+p.z;grind
 unfold pr;rw[e,e]
theorem yAV(A p:Pt):xZ p (yO A p)=A:=by
 unfold xZ yO;rw[qS];exact⟨by grind,by grind,by grind⟩
theorem yI6(A B X:Pt)(i j:Nat):c2Z (pr A i j) (pr B i j) (pr (xZ p X) i j)=c2Z (pr (yO A p) i j) (pr (yO B p) i j) (pr X i j):=by
 have D:=zWM p (yO A p) i j;have C:=zWM p (yO B p) i j;rw[yAV] at D C;rw[D,C,zWM];exact zNK (pr p i j)
variable (hN:N≠zT)(hd:zE N d=c)(ht:0<t)(htc:t*c=h)(hc:c≠0)
include hN hd ht htc hc
theorem zUV(l:List Pt):∀m,m<=l.length->zMX N h (nV p l m)->(0<c->wnT l (pr (xZ p (scT t d)) (axI N) (axJ N)) (axI N) (axJ N) m=kE d (eN N) (nV p l m))/\(c<0->wnT l (pr (xZ p (scT t d)) (axI N) (axJ N)) (axI N) (axJ N) m=kE (eN N) d (nV p l m))
  |0,_,_=>⟨λ_=>rfl,λ_=>rfl⟩
  |m+1,hm,hE=>by
   have hE':zMX N h (nV p l m++[(yO (gp l m) p,yO (gp l ((m+1)%l.length)) p)]):=hE;obtain⟨h1,h2⟩:=zUV l m zoq λx hx=>hE' x (List.mem_append_left _ hx);have h3:=hE' _ (List.mem_append_right _ (.head _));obtain⟨g1,g2⟩:=yLS hN h3.1 h3.2 hd ht htc hc;have e0:=yI6 (p:=p) (gp l m) (gp l ((m+1)%l.length)) (scT t d) (axI N) (axJ N);constructor
   · intro hp
     show wnT l _ _ _ m+c2Z (pr (gp l m) _ _) (pr (gp l ((m+1)%l.length)) _ _) _=kE d (eN N) (nV p l m++[_])
     rw[cY,h1 hp,e0,g1 hp]
     show _=_+(_+0);rw[Int.add_zero]
   · intro hp
     show wnT l _ _ _ m+c2Z (pr (gp l m) _ _) (pr (gp l ((m+1)%l.length)) _ _) _=kE (eN N) d (nV p l m++[_])
     rw[cY,h2 hp,e0,g2 hp]
     show _=_+(_+0);rw[Int.add_zero]
theorem zIX(L:List (List Pt)):∀m,zMX N h (nW p L m)->(0<c->wnF L (pr (xZ p (scT t d)) (axI N) (axJ N)) (axI N) (axJ N) m=kE d (eN N) (nW p L m))/\(c<0->wnF L (pr (xZ p (scT t d)) (axI N) (axJ N)) (axI N) (axJ N) m=kE (eN N) d (nW p L m))
  |0,_=>⟨λ_=>rfl,λ_=>rfl⟩
  |m+1,hE=>by
   have hE':zMX N h (nW p L m++nV p (gl L m) (gl L m).length):=hE;obtain⟨h1,h2⟩:=zIX L m λx hx=>hE' x (List.mem_append_left _ hx);obtain⟨g1,g2⟩:=zUV hN hd ht htc hc (gl L m) _ (Nat.le_refl _) λx hx=>hE' x (List.mem_append_right _ hx);constructor
   · intro hp
     show wnF L _ _ _ m+wnT (gl L m) _ _ _ (gl L m).length=kE d (eN N) (nW p L m++_)
     rw[cY,h1 hp,g1 hp]
   · intro hp
     show wnF L _ _ _ m+wnT (gl L m) _ _ _ (gl L m).length=kE (eN N) d (nW p L m++_)
     rw[cY,h2 hp,g2 hp]
end
abbrev yX(s:Sd)(f:Nat):Pt:=(s.2.1.getD f zA).1.1
noncomputable def edS(s:Sd)(p:Pt)(f:Nat):EL:=nW p (xE s f) (xE s f).length
noncomputable def wnS(s:Sd)(f:Nat)(q:Pt):Int:=wnF (xE s f) (pr q (axI (yX s f)) (axJ (yX s f))) (axI (yX s f)) (axJ (yX s f)) (xE s f).length
def wnP(s:Sd):Prop:=∀f,f<s.2.1.length->∀q,whF s f q≠0->wnS s f q=0\/wnS s f q=1
theorem zUU{s:Sd}(hw:wnP s){f:Nat}(hf:f<s.2.1.length){q:Pt}(h:whF s f q≠0):wnS s f q=if whF s f q=1 then 1 else 0:=by
 have h1:=hw f hf q h;rw[zBA] at h ⊢;have h2:=yEV h
 rcases h1 with e|e
 · unfold wnS at e ⊢
   rw[h2];rw[e];rw[if_neg (show ¬(0:Int)%2=1 by decide),if_neg (show ¬(-1:Int)=1 by decide)]
 · unfold wnS at e ⊢
   rw[h2];rw[e];rw[if_pos (show(1:Int)%2=1 by decide),if_pos I]
section
variable {s:Sd}{f:Nat}(hs:zM2 s)(hf:f<s.2.1.length)
include hs hf
theorem zIL(p:Pt):zMX (yX s f) (hnF s p f) (edS s p f):=λx hx=>by
 obtain⟨l,k,hl,hk,rfl⟩:=zAW hx;have h1:=((hs f hf).2 l hl k hk).1;have h2:=((hs f hf).2 l hl _ (Nat.mod_lt (k+1) (show 0<(gl (xE s f) l).length by omega))).1;have e:∀A:Pt,zE (yX s f) A=(s.2.1.getD f zA).1.2->zE (yX s f) (yO A p)=hnF s p f:=λA h=>by
  unfold hnF;rw[<-h];unfold zE yO;grind
 exact⟨e _ h1,e _ h2⟩
omit hs hf in
theorem zCT{p d:Pt}{x:Pt×Pt}{sx l:Rat}(hx:x∈edS s p f)(h0:0<=sx)(h1:sx<=1)(e:xZ x.1 (scT sx (yO x.2 x.1))=scT l d):whF s f (xZ p (scT l d))=0:=by
 obtain⟨m,k,O,hk,rfl⟩:=zAW hx;rw[zBA];generalize axI (s.2.1.getD f zA).1.1=i;generalize axJ (s.2.1.getD f zA).1.1=j;have C:onS (wV (gl (xE s f) m) i j k) (wU (gl (xE s f) m) i j k) (pr (xZ p (scT l d)) i j):=by
  unfold wV wU;generalize gp (gl (xE s f) m) k=A at *;generalize gp (gl (xE s f) m) ((k+1)%(gl (xE s f) m).length)=B at *;have D:∀n,(xZ p (scT l d)).at n=A.at n+sx*(B.at n-A.at n):=λn=>by
   rw[<-e];unfold xZ scT yO
   match n with
   |0=>simp only[T3.at];grind
   |1=>simp only[T3.at];grind
   |_+2=>simp only[T3.at];grind
  have H:∀a b:Rat,qP a b (a+sx*(b-a)):=λa b=>by
   unfold qP
   rcases(show a<=b\/b<=a by grind) with h|h
   · have M:=zod h0 (show 0<=b-a by grind)
     have J:=zod (show 0<=1-sx by grind) (show 0<=b-a by grind);exact .inl ⟨by grind,by grind⟩
   · have M:=zod h0 (show 0<=a-b by grind)
     have J:=zod (show 0<=1-sx by grind) (show 0<=a-b by grind);exact .inr ⟨by grind,by grind⟩
  unfold pr;rw[D,D];refine⟨H _ _,H _ _,?_⟩;unfold cr;simp only;grind
 unfold whZ;rw[if_pos ⟨m,O,if_pos ⟨k,hk,C⟩⟩]
theorem zKM{p d:Pt}(hh:hnF s p f≠0)(hb:¬bdS s p d f):eM (edS s p f) d:=λx hx hm=>by
 obtain⟨sx,l,h0,h1,hl,e⟩:=hm;have hE:=zIL hs hf p x hx;obtain⟨l2,hl2,e2⟩:=yDY hE.1 hE.2 ⟨sx,l,h0,h1,hl,e⟩;have e3:hnF s p f=l*cnF s d f:=by
  have:=congrArg (zE (yX s f)) e;rw[zCN,zGH,hE.1,hE.2] at this
  show _=l*zE (yX s f) d
  grind
 have hw:=zCT hx h0 h1 e;have hc:cnF s d f≠0:=λe0=>hh (by rw[e3,e0];grind);have C:0<l:=by
  have:l≠0:=λe0=>hh (by rw[e3,e0];grind);grind
 have et:hnF s p f/cnF s d f=l:=by
  rw[e3];generalize cnF s d f=c at *;grind
 refine hb ⟨?_,by rw[et];exact hw⟩;unfold skP;rw[aX,e3];generalize cnF s d f=c at *;intro D;refine D ?_
 rcases(show 0<c\/c<0 by grind) with h|h
 · exact .inl ⟨h,xD C h⟩
 · refine .inr ⟨h,?_⟩
   have:=xD C (show 0< -c by grind);grind
omit hs hf in
theorem yCA{N A B d:Pt}{h c:Rat}(hN:N≠zT)(hA:zE N A=h)(hB:zE N B=h)(hd:zE N d=c)(hs:¬((0<c/\0<h)\/(c<0/\h<0)))(hh:h≠0):kp d (eN N) A B=0:=by
 obtain⟨nk,H,_⟩:=zIM hN
 by_cases hc:c=0
 · exact zRB hN (hd.trans hc) H hA hB
 · have Z:=yIP (A:=A) (B:=B) hA hB hd H
   unfold kp kq;generalize yB A d (eN N)=a at *;generalize yB B d (eN N)=b at *;generalize yB A B (eN N)=n at *;have D:0< -(c*h):=by
    rcases(show 0<c\/c<0 by grind) with h1|h1<;>rcases(show 0<h\/h<0 by grind) with h2|h2
    · exact absurd (.inl ⟨h1,h2⟩) hs
    · have:=xD h1 (show 0< -h by grind);grind
    · have:=xD (show 0< -c by grind) h2;grind
    · exact absurd (.inr ⟨h1,h2⟩) hs
   have C:0<c*c:=by
    have:=zQI c;have:c*c≠0:=λe=>(zoe.1 e).elim hc hc;grind
   have U:c*c*n= -(c*h)*(b-a):=by grind
   rw[if_neg,if_neg]
   · rintro⟨⟨h1,h2⟩,h3,J⟩
     have O:=xD C J;have M:=zod (Rat.le_of_lt D) (show 0<=a-b by grind);grind
   · rintro⟨⟨h1,h2⟩,h3,J⟩
     have O:=xD C (show 0< -n by grind);have M:=zod (Rat.le_of_lt D) (show 0<=b-a by grind);grind
theorem zZF(hw:wnP s){p d:Pt}(hh:hnF s p f≠0)(hb:¬bdS s p d f):crE s p d f=kE d (eN (yX s f)) (edS s p f):=by
 have hN:=(hs f hf).1;have hE:=zIL hs hf p;have Z:=zKM hs hf hh hb;obtain⟨nk,J,hz⟩:=zIM hN;unfold crE
 by_cases hk:skP s p d f
 · rw[if_pos hk]
   unfold skP at hk;rw[aX] at hk;exact(zA2 λx hx=>yCA hN (hE x hx).1 (hE x hx).2 I hk hh).symm
 · rw[if_neg hk]
   have H:whF s f (pO p d (hnF s p f/cnF s d f))≠0:=λe=>hb ⟨hk,e⟩;have D:=zUU hw hf H;have C:(0<cnF s d f/\0<hnF s p f)\/(cnF s d f<0/\hnF s p f<0):=Classical.not_not.1 λe=>hk (by unfold skP;rw[aX];exact e);have hc:cnF s d f≠0:=λe=>by rw[e] at C;rcases C with h|h<;>exact absurd h.1 zot
   have htc:hnF s p f/cnF s d f*cnF s d f=hnF s p f:=by generalize cnF s d f=c at *;grind
   have ht:0<hnF s p f/cnF s d f:=by
    refine Rat.not_le.1 λe=>?_
    rcases C with h|h
    · have:=zod (show 0<= -(hnF s p f/cnF s d f) by grind) (Rat.le_of_lt h.1);grind
    · have:=zod (show 0<= -(hnF s p f/cnF s d f) by grind) (show 0<= -cnF s d f by grind);grind
   obtain⟨U,O⟩:=zIX hN (c:=cnF s d f) I ht htc hc (xE s f) _ hE;have M:wnF (xE s f) (pr (xZ p (scT (hnF s p f/cnF s d f) d)) (axI (yX s f)) (axJ (yX s f))) (axI (yX s f)) (axJ (yX s f)) (xE s f).length=if whF s f (pO p d (hnF s p f/cnF s d f))=1 then 1 else 0:=D
   rcases C with h|h
   · rw[<-show _=kE d (eN (yX s f)) (edS s p f) from U h.1,M,if_pos h.1]
   · have h0:¬0<cnF s d f:=λe=>absurd (show(0:Rat)<0 by grind) zot
     have h3:=(zCG hN (iT p (xE s f) _) hE hh Z hc J J hz hz).2;rw[show kE (eN (yX s f)) d (nW p (xE s f) (xE s f).length)=_ from(O h.1).symm,M] at h3
     show _=kE d (eN (yX s f)) (nW p (xE s f) (xE s f).length)
     rw[if_neg h0]
     by_cases e:whF s f (pO p d (hnF s p f/cnF s d f))=1
     · rw[if_pos e] at h3 ⊢
       have h4:(1:Int)= -kE d (eN (yX s f)) (nW p (xE s f) (xE s f).length):=h3;omega
     · rw[if_neg e] at h3 ⊢
       have h4:(0:Int)= -kE d (eN (yX s f)) (nW p (xE s f) (xE s f).length):=h3;omega
end
theorem kq_0{P:Rat->Prop}{a b m n:Rat}(h:¬(0<m/\n<0)/\¬(m<0/\0<n)):kq P a b m n=0:=by
 unfold kq;rw[if_neg λe=>h.1 e.2,if_neg λe=>h.2 e.2]
def tuT(N d G:Pt):Pt:=xZ (scT (zE N d) G) (scT (-zE N G) d)
section
variable {N A B d G:Pt}(hN:N≠zT)(hA:zE N A=0)(hB:zE N B=0)
include hN hA hB
omit hN in
theorem zMW(x:Pt):zE N N*yB A B x=zE N x*yB A B N:=by
 have D:yB A B x=yB x A B:=by unfold yB zE zY;grind
 have C:yB A B N=yB N A B:=by unfold yB zE zY;grind
 rw[D,C];exact zKO hA hB
omit hN hB in
theorem yLC:zE N N*yB A d G=yB A N (tuT N d G):=by
 have:zE N N*yB A d G-yB A N (tuT N d G)=zE N A*yB N d G:=by
  unfold tuT yB zE zY xZ scT;grind
 rw[hA] at this;grind
theorem yCH(h:¬(0<zE N d/\zE N G<0)/\¬(zE N d<0/\0<zE N G)):kp d G A B=0:=by
 have O:=zMW hA hB d;have M:=zMW hA hB G;have D:=nN hN;unfold kp;generalize zE N N=n at *;generalize yB A B d=u at *;generalize yB A B G=v at *;generalize yB A B N=w at *;generalize zE N d=c at *;generalize zE N G=g at *;refine kq_0 ⟨λe=>?_,λe=>?_⟩
 · have J:=xD D e.1
   have H:=xD D (show 0< -v by grind)
   rcases(show w<=0\/0<=w by grind) with hw|hw
   · have hc:c<0:=Rat.not_le.1 λhc=>by have:=zod hc (show 0<= -w by grind);grind
     have C:0<g:=Rat.not_le.1 λC=>by have:=zod (show 0<= -g by grind) (show 0<= -w by grind);grind
     exact h.2 ⟨hc,C⟩
   · have hc:0<c:=Rat.not_le.1 λhc=>by have:=zod (show 0<= -c by grind) hw;grind
     have C:g<0:=Rat.not_le.1 λC=>by have:=zod C hw;grind
     exact h.1 ⟨hc,C⟩
 · have J:=xD D (show 0< -u by grind)
   have H:=xD D e.2
   rcases(show w<=0\/0<=w by grind) with hw|hw
   · have hc:0<c:=Rat.not_le.1 λhc=>by have:=zod (show 0<= -c by grind) (show 0<= -w by grind);grind
     have C:g<0:=Rat.not_le.1 λC=>by have:=zod C (show 0<= -w by grind);grind
     exact h.1 ⟨hc,C⟩
   · have hc:c<0:=Rat.not_le.1 λhc=>by have:=zod hc hw;grind
     have C:0<g:=Rat.not_le.1 λC=>by have:=zod (show 0<= -g by grind) hw;grind
     exact h.2 ⟨hc,C⟩
theorem zYM:(0<zE N d/\zE N G<0->kp d G A B=kp N (tuT N d G) (xZ A N) (xZ B N))/\(zE N d<0/\0<zE N G->kp d G A B=kp (scT (-1) (tuT N d G)) N (xZ A N) (xZ B N)):=by
 have m1:=zMW hA hB d;have m2:=zMW hA hB G;have a1:=yLC (d:=d) (G:=G) hA;have b1:=yLC (d:=d) (G:=G) hB;have hn:=nN hN;have hr:zE N (tuT N d G)=0:=by unfold tuT zE xZ scT;grind
 have U:=zMW hA hB (tuT N d G);rw[hr,Rat.zero_mul] at U;have C:yB A B (tuT N d G)=0:=(zoe.1 U).resolve_left (cF hN);generalize aa:tuT N d G=r at *;have a2:yB (xZ A N) N r=yB A N r:=by unfold yB zE zY xZ;grind
 have b2:yB (xZ B N) N r=yB B N r:=by unfold yB zE zY xZ;grind
 have a3:yB (xZ A N) (scT (-1) r) N=yB A N r:=by unfold yB zE zY xZ scT;grind
 have b3:yB (xZ B N) (scT (-1) r) N=yB B N r:=by unfold yB zE zY xZ scT;grind
 have s1:yB (xZ A N) (xZ B N) N=yB A B N:=by unfold yB zE zY xZ;grind
 have s2:yB (xZ A N) (xZ B N) r=yB A B r+yB A N r-yB B N r:=by unfold yB zE zY xZ;grind
 have s3:yB (xZ A N) (xZ B N) (scT (-1) r)= -yB A B r-yB A N r+yB B N r:=by unfold yB zE zY xZ scT;grind
 unfold kp;rw[a2,b2,a3,b3,s1,s2,s3,C,<-a1,<-b1];generalize zE N N=n at *;generalize yB A B d=u at *;generalize yB A B G=v at *;generalize yB A B N=w at *;generalize zE N d=c at *;generalize zE N G=g at *;generalize yB A d G=a at *;generalize yB B d G=b at *;have sg:∀x:Rat,0<n*x↔0<x:=λx=>uE hn;have f1:=sg u;have f2:=sg (-v);have f3:=sg (-u);have f4:=sg v;have f5:=sg a;have f6:=sg b;have f7:=sg (b-a);have f8:=sg (a-b);constructor
 · rintro⟨hc,D⟩
   have Z:=uE (y:=w) hc;have g2:=uE (y:=w) (show 0< -g by grind);have g3:=uE (y:=-w) hc;have g4:=uE (y:=-w) (show 0< -g by grind);have O:0<u↔0<w:=by rw[<-f1,m1,Z]
   have M:v<0↔0<w:=by constructor<;>intro h<;>grind
   have J:u<0↔w<0:=by constructor<;>intro h<;>grind
   have H:0<v↔w<0:=by constructor<;>intro h<;>grind
   unfold kq;simp only[f5,f6,O,M,J,H]
   by_cases c1:¬0<a/\0<b
   · have c2:¬(0<a/\¬0<b):=λe=>c1.1 e.1
     by_cases hw:0<w
     · rw[if_pos ⟨c1,hw,hw⟩,if_pos ⟨c1,hw,by grind⟩]
     · rw[if_neg λe=>hw e.2.1,if_neg λe=>c2 e.1,if_neg λe=>hw e.2.1,if_neg λe=>c2 e.1]
   · by_cases c2:0<a/\¬0<b
     · by_cases hw:w<0
       · rw[if_neg λe=>c1 e.1,if_pos ⟨c2,hw,hw⟩,if_neg λe=>c1 e.1,if_pos ⟨c2,hw,by grind⟩]
       · rw[if_neg λe=>c1 e.1,if_neg λe=>hw e.2.1,if_neg λe=>c1 e.1,if_neg λe=>hw e.2.1]
     · rw[if_neg λe=>c1 e.1,if_neg λe=>c2 e.1,if_neg λe=>c1 e.1,if_neg λe=>c2 e.1]
 · rintro⟨hc,D⟩
   have Z:=uE (y:=w) D;have g2:=uE (y:=w) (show 0< -c by grind);have g3:=uE (y:=-w) D;have g4:=uE (y:=-w) (show 0< -c by grind);have O:0<u↔w<0:=by constructor<;>intro h<;>grind
   have M:v<0↔w<0:=by constructor<;>intro h<;>grind
   have J:u<0↔0<w:=by constructor<;>intro h<;>grind
   have H:0<v↔0<w:=by constructor<;>intro h<;>grind
   unfold kq;simp only[f5,f6,O,M,J,H]
   by_cases c1:¬0<a/\0<b
   · have c2:¬(0<a/\¬0<b):=λe=>c1.1 e.1
     by_cases hw:w<0
     · rw[if_pos ⟨c1,hw,hw⟩,if_pos ⟨c1,by grind,hw⟩]
     · rw[if_neg λe=>hw e.2.1,if_neg λe=>c2 e.1,if_neg λe=>hw e.2.2,if_neg λe=>c2 e.1]
   · by_cases c2:0<a/\¬0<b
     · by_cases hw:0<w
       · rw[if_neg λe=>c1 e.1,if_pos ⟨c2,hw,hw⟩,if_neg λe=>c1 e.1,if_pos ⟨c2,by grind,hw⟩]
       · rw[if_neg λe=>c1 e.1,if_neg λe=>hw e.2.1,if_neg λe=>c1 e.1,if_neg λe=>hw e.2.2]
     · rw[if_neg λe=>c1 e.1,if_neg λe=>c2 e.1,if_neg λe=>c1 e.1,if_neg λe=>c2 e.1]
end
theorem zRP(p N:Pt)(L:List (List Pt)):∀n,(nW p L n).map (λx=>(xZ x.1 N,xZ x.2 N))=nW (yO p N) L n
  |0=>rfl
  |n+1=>by
   have ha:∀A:Pt,xZ (yO A p) N=yO A (yO p N):=λA=>by
    unfold xZ yO;rw[qS];exact⟨by grind,by grind,by grind⟩
   have hX:∀l m,(nV p l m).map (λx=>(xZ x.1 N,xZ x.2 N))=nV (yO p N) l m:=λl m=>by
    induction m with
    |zero=>rfl
    |succ m ih=>
     show(nV p l m++[_]).map _=nV (yO p N) l m++[_]
     rw[List.map_append,ih]
     show _++[(xZ (yO (gp l m) p) N,xZ (yO (gp l ((m+1)%l.length)) p) N)]=_
     rw[ha,ha]
   show(nW p L n++nV p _ _).map _=nW (yO p N) L n++nV (yO p N) _ _
   rw[List.map_append,zRP p N L n,hX]
section
variable {s:Sd}{f:Nat}(hs:zM2 s)(hw:wnP s)(hf:f<s.2.1.length)
include hs hw hf
theorem yK6{p d G:Pt}(hh:hnF s p f=0)(hp:whF s f p≠0/\whF s f p≠1)(hG:zE (yX s f) G≠0)(hr:tuT (yX s f) d G≠zT):kE d G (edS s p f)=0:=by
 have hN:=(hs f hf).1;have hE:=zIL hs hf p;rw[hh] at hE;obtain⟨nk,he,hz⟩:=zIM hN;have H:=cF hN
 by_cases ho:(0<zE (yX s f) d/\zE (yX s f) G<0)\/(zE (yX s f) d<0/\0<zE (yX s f) G)
 · -- seen from a point behind the face
   have D:=zIL hs hf (yO p (yX s f));have C:hnF s (yO p (yX s f)) f=zE (yX s f) (yX s f):=by
    have:hnF s (yO p (yX s f)) f=hnF s p f+zE (yX s f) (yX s f):=by unfold hnF zE yO;grind
    rw[this,hh];grind
   have hb:xZ (yO p (yX s f)) (scT 1 (yX s f))=p:=by
    unfold xZ yO scT;rw[qS];exact⟨by grind,by grind,by grind⟩
   have hm:eM (edS s (yO p (yX s f)) f) (yX s f):=λx hx ad=>by
    obtain⟨sx,l,h0,h1,hl,e⟩:=ad;have Z:=D x hx;have:=congrArg (zE (yX s f)) e;rw[zCN,zGH,Z.1,Z.2,C] at this;have l1:l=1:=by
     generalize zE (yX s f) (yX s f)=n at *;have:n*(l-1)=0:=by grind
     have:=(zoe.1 this).resolve_left H;grind
    have U:=zCT hx h0 h1 e;rw[l1,hb] at U;exact hp.1 U
   have J:=zUU hw hf hp.1;rw[if_neg hp.2] at J;have w1:=(zIX hN (p:=yO p (yX s f)) (d:=yX s f) (c:=zE (yX s f) (yX s f)) (t:=1) I zot (h:=hnF s (yO p (yX s f)) f) (by rw[C];grind) H (xE s f) _ D).1 (nN hN);rw[hb] at w1;have k0:kE (yX s f) (eN (yX s f)) (edS s (yO p (yX s f)) f)=0:=w1.symm.trans J;have M:zE (yX s f) (tuT (yX s f) d G)=0:=by unfold tuT zE xZ scT;grind
   have O:dU (edS s (yO p (yX s f)) f):=iT (yO p (yX s f)) (xE s f) (xE s f).length;have aa:edS s (yO p (yX s f)) f=(edS s p f).map λx=>(xZ x.1 (yX s f),xZ x.2 (yX s f)):=(zRP p (yX s f) (xE s f) _).symm
   rcases ho with h|h
   · rw[zF7 (d':=yX s f) (e':=tuT (yX s f) d G) (m:=λX=>xZ X (yX s f)) λx hx=>(zYM hN (hE x hx).1 (hE x hx).2).1 h,<-aa]
     rw[<-(zCG hN O D (by rw[C];exact H) hm H he M hz hr).1];exact k0
   · have ac:zE (yX s f) (scT (-1) (tuT (yX s f) d G))=0:=by rw[zGH,M];grind
     have ab:scT (-1) (tuT (yX s f) d G)≠zT:=λe=>hr (by
      generalize tuT (yX s f) d G=r at *;unfold scT at e;rw[qS] at e ⊢;obtain⟨e1,e2,e3⟩:=e;have z:(zT:Pt).x=0/\(zT:Pt).y=0/\(zT:Pt).z=0:=⟨I,I,I⟩;simp only at e1 e2 e3;exact⟨by grind,by grind,by grind⟩)
     rw[zF7 (d':=scT (-1) (tuT (yX s f) d G)) (e':=yX s f) (m:=λX=>xZ X (yX s f)) λx hx=>(zYM hN (hE x hx).1 (hE x hx).2).2 h,<-aa];have:=(zCG hN O D (by rw[C];exact H) hm H he ac hz ab).2;rw[show kE (yX s f) (eN (s.2.1.getD f zA).1.1) (edS s (yO p (yX s f)) f)=0 from k0] at this;exact this.trans zot
 · exact zA2 λx hx=>yCH hN (hE x hx).1 (hE x hx).2 ⟨λe=>ho (.inl e),λe=>ho (.inr e)⟩
theorem zUC{p d G:Pt}(ho:¬onP s p f)(hd:¬bdS s p d f)(hg:¬bdS s p G f)(hG:cnF s G f≠0)(hr:tuT (yX s f) d G≠zT):kE d G (edS s p f)=crE s p d f-crE s p G f:=by
 have hN:=(hs f hf).1;obtain⟨Z,U,hz⟩:=zIM hN
 by_cases hh:hnF s p f=0
 · have C:∀x,skP s p x f:=λx=>by unfold skP;rw[hh,show yV 0=0 from if_pos I,Int.mul_zero];exact Int.le_refl 0
   have J:∀x,crE s p x f=0:=λx=>if_pos (C x);rw[J,J];have D:sdZ (s.2.1.getD f zA).1 p=0:=by
    unfold sdZ hgt;have:zE (s.2.1.getD f zA).1.1 p-(s.2.1.getD f zA).1.2=0:=by unfold hnF at hh;grind
    rw[this];exact if_pos I
   have M:¬0<=whF s f p:=λe=>ho ⟨D,e⟩;exact yK6 hs hw hf hh ⟨by omega,by omega⟩ hG hr
 · have O:=zKM hs hf hh hd
   have H:=zKM hs hf hh hg;rw[zZF hs hf hw hh hd,zZF hs hf hw hh hg];exact yCC hN (iT p (xE s f) _) (zIL hs hf p) hh O H hG hr U hz
end
abbrev QI:=Int×Int
def mA(κ:Int->Int->Int):List QI->Int
  |[]=>0
  |x::r=>κ x.1 x.2+mA κ r
theorem zSJ{κ:Int->Int->Int}{a b:List QI}(h:a.Perm b):mA κ a=mA κ b:=by
 induction h with
 |nil=>rfl
 |cons x _ ih=>show κ x.1 x.2+_=κ x.1 x.2+_;rw[ih]
 |swap x y l=>show κ y.1 y.2+(κ x.1 x.2+_)=κ x.1 x.2+(κ y.1 y.2+_);omega
 |trans _ _ h1 h2=>exact h1.trans h2
theorem nC(κ:Int->Int->Int):∀a b:List QI,mA κ (a++b)=mA κ a+mA κ b
  |[],b=>by show _=0+_;rw[Int.zero_add];rfl
  |x::r,b=>by
   show κ x.1 x.2+mA κ (r++b)=κ x.1 x.2+mA κ r+_
   rw[nC κ r b];omega
def swQ(x:QI):QI:=(x.2,x.1)
theorem zHM{κ:Int->Int->Int}(h:∀a b,κ b a= -κ a b):∀l:List QI,mA κ (l.map swQ)= -mA κ l
  |[]=>rfl
  |x::r=>by
   show κ x.2 x.1+mA κ (r.map swQ)= -(κ x.1 x.2+mA κ r)
   rw[zHM h r,h];omega
theorem zGL(a b:Int):∀l:List QI,(l.map swQ).count (a,b)=l.count (b,a)
  |[]=>rfl
  |x::r=>by
   rw[List.map_cons,List.count_cons,List.count_cons,zGL a b r];have e:(swQ x==(a,b))=(x==(b,a)):=by
    obtain⟨u,v⟩:=x;unfold swQ;rw[Bool.eq_iff_iff,beq_iff_eq,beq_iff_eq,Prod.mk.injEq,Prod.mk.injEq];exact And.comm
   rw[e]
theorem zSI{κ:Int->Int->Int}(h:∀a b,κ b a= -κ a b){l:List QI}(hl:∀a b,l.count (a,b)<=l.count (b,a)):mA κ l=0:=by
 have C:l.Perm (l.map swQ):=List.perm_iff_count.2 λx=>by
  obtain⟨a,b⟩:=x;rw[zGL];exact Nat.le_antisymm (hl a b) (hl b a)
 have h1:=zSJ (κ:=κ) C;rw[zHM h] at h1;omega
def dW(e:E5):QI:=(e.1,e.2.1)
theorem zK5(E:List E5)(a b:Int):∀m,m<=E.length->eX E a b m=(((E.map dW).take m).count (a,b):Nat)
  |0,_=>rfl
  |m+1,h=>by
   have ih:=zK5 E a b m zoq;have hm:m<(E.map dW).length:=by rw[List.length_map];omega
   rw[List.take_succ_eq_append_getElem hm,List.count_append];have e:(E.map dW)[m]=dW (E.getD m e0):=by
    rw[List.getElem_map,zoa,zoc zoq];rfl
   rw[e];have hc:List.count (a,b) [dW (E.getD m e0)]=if zM9 (E.getD m e0) a b then 1 else 0:=by
    rw[List.count_cons,List.count_nil]
    by_cases h:zM9 (E.getD m e0) a b
    · rw[if_pos h,if_pos (by rw[beq_iff_eq];exact Prod.ext h.1 h.2)]
    · rw[if_neg h,if_neg (by rw[beq_iff_eq];exactλe=>h ⟨congrArg Prod.fst e,congrArg Prod.snd e⟩)]
   rw[hc]
   show(if zM9 (E.getD m e0) a b then eX E a b m+1 else eX E a b m)=_
   by_cases h:zM9 (E.getD m e0) a b
   · rw[if_pos h,if_pos h,ih];omega
   · rw[if_neg h,if_neg h,ih];omega
theorem zSN{s:Sd}(h:kZ s)(a b:Int):((edZ (wR s)).map dW).count (a,b)<=((edZ (wR s)).map dW).count (b,a):=by
 have hc:=(dA h).2.2.2.2;generalize hE:edZ (wR s)=E at *;have hx:∀i,i<E.length->¬yCU E i:=by
  unfold clZ at hc
  split at hc
  · rw[hE] at hc
    exact(oC _).1 hc
  · exact absurd hc zoy
 have ht:∀a b,tmZ E a b=((E.map dW).count (a,b):Nat):=λa b=>by
  unfold tmZ;rw[zK5 E a b _ (Nat.le_refl _),List.take_of_length_le (by rw[List.length_map];exact Nat.le_refl _)]
 rcases Nat.eq_zero_or_pos ((E.map dW).count (a,b)) with h0|h0
 · omega
 · have D:=List.count_pos_iff.1 h0
   obtain⟨x,C,e⟩:=List.mem_map.1 D;obtain⟨i,hi,rfl⟩:=List.mem_iff_getElem.1 C;have h1:=hx i hi;unfold yCU at h1;have H:E.getD i ((0:Int),(0:Int),(0:Int),(0:Int),(0:Int))=E[i]:=by rw[zoa,zoc hi];rfl
   rw[H,show E[i].1=a from congrArg Prod.fst e,show E[i].2.1=b from congrArg Prod.snd e,ht,ht] at h1;omega
noncomputable def kIS(s:Sd)(p d G:Pt)(a b:Int):Int:=kp d G (yO (ptI s.1 a) p) (yO (ptI s.1 b) p)
theorem yCB(d e A B:Pt):kp d e B A= -kp d e A B:=by
 have C:∀x,yB B A x= -yB A B x:=λx=>by unfold yB zE zY;grind
 unfold kp;rw[C,C];generalize yB A d e=a;generalize yB B d e=b;generalize yB A B d=m;generalize yB A B e=n;unfold kq
 by_cases c1:(¬0<a/\0<b)/\(0<m/\n<0)
 · rw[if_pos c1,if_neg (λe=>by have:=e.1.1 c1.1.2;exact this),if_pos ⟨⟨c1.1.2,c1.1.1⟩,by grind,by grind⟩]
 · by_cases c2:(0<a/\¬0<b)/\(m<0/\0<n)
   · rw[if_neg c1,if_pos c2,if_pos ⟨⟨c2.1.2,c2.1.1⟩,by grind,by grind⟩];rfl
   · rw[if_neg c1,if_neg c2,if_neg (λe=>c2 ⟨⟨e.1.2,e.1.1⟩,by grind,by grind⟩),if_neg (λe=>c1 ⟨⟨e.1.2,e.1.1⟩,by grind,by grind⟩)];rfl
section
variable {s:Sd}(h:kZ s)(p d G:Pt)
include h
theorem yCD{f:Nat}(hf:f<s.2.1.length):kE d G (edS s p f)=mA (kIS s p d G) ((edL (s.2.1.getD f zA).2.1 f (s.2.1.getD f zA).2.1.length).map dW):=by
 obtain⟨c1,c2⟩:=zKP hf (w5 h hf).2;unfold edS;rw[c1];have hl:∀n,n<=(s.2.1.getD f zA).2.1.length->kE d G (nW p (xE s f) n)=mA (kIS s p d G) ((edL (s.2.1.getD f zA).2.1 f n).map dW):=by
  intro n
  induction n with
  |zero=>intro _;rfl
  |succ n ih=>
   intro hn;obtain⟨c3,c4⟩:=c2 n zoq;have hk:∀k,k<=((s.2.1.getD f zA).2.1.getD n []).length->kE d G (nV p (gl (xE s f) n) k)=mA (kIS s p d G) ((edX ((s.2.1.getD f zA).2.1.getD n []) f n k).map dW):=by
    intro k
    induction k with
    |zero=>intro _;rfl
    |succ k ihk=>
     intro hk
     show kE d G (nV p (gl (xE s f) n) k++[_])=mA _ ((edX _ f n k++[_]).map dW)
     rw[cY,List.map_append,nC,ihk zoq]
     show _+(kp d G (yO (gp (gl (xE s f) n) k) p) (yO (gp (gl (xE s f) n) ((k+1)%(gl (xE s f) n).length)) p)+0)=_+(kIS s p d G _ _+0)
     rw[c3,c4 k zoq,c4 _ (Nat.mod_lt _ zoq)];rfl
   show kE d G (nW p (xE s f) n++nV p (gl (xE s f) n) (gl (xE s f) n).length)=mA _ ((edL _ f n++edX _ f n _).map dW)
   rw[cY,List.map_append,nC,ih zoq,c3,hk _ (Nat.le_refl _)]
 exact hl _ (Nat.le_refl _)
noncomputable def kES(s:Sd)(p d G:Pt):Nat->Int
  |0=>0
  |n+1=>kES s p d G n+kE d G (edS s p n)
theorem zYC:kES s p d G s.2.1.length=0:=by
 have hn:∀n,n<=s.2.1.length->kES s p d G n=mA (kIS s p d G) ((edF (wR s) n).map dW):=by
  intro n
  induction n with
  |zero=>intro _;rfl
  |succ n ih=>
   intro hn
   show kES s p d G n+kE d G (edS s p n)=mA _ ((edF (wR s) n++edL ((wR s).getD n []) n ((wR s).getD n []).length).map dW)
   rw[List.map_append,nC,ih zoq,yCD h p d G zoq,aQ zoq]
 rw[hn _ (Nat.le_refl _)];have:=zSI (κ:=kIS s p d G) (λa b=>yCB d G _ _) (zSN h);unfold edZ at this;rw[tL] at this;exact this
end
theorem vk_3{n:Pt}(hn:n≠zT){i j k:Nat}(h1:i≠j)(h2:i≠k)(h3:j≠k)(hi:zE n (vK i)=0)(hj:zE n (vK j)=0)(hk:zE n (vK k)=0):False:=by
 have e:∀m:Nat,zE n (vK m)=n.x+n.y*((m:Int):Rat)+n.z*(((m:Int):Rat)*((m:Int):Rat)):=λm=>by
  unfold zE vK;simp only[Rat.intCast_mul];have:((1:Int):Rat)=1:=I;rw[this];grind
 have C:∀a b:Nat,a≠b->((a:Int):Rat)-((b:Int):Rat)≠0:=λa b h e=>h (by
  have:=Rat.intCast_inj.1 (show((a:Int):Rat)=((b:Int):Rat) by grind);omega)
 rw[e] at hi hj hk;have J:=C i j h1;have H:=C i k h2;have D:=C j k h3;generalize ((i:Int):Rat)=x at *;generalize ((j:Int):Rat)=y at *;generalize ((k:Int):Rat)=z at *;have U:(x-y)*(n.y+n.z*(x+y))=0:=by grind
 have O:(x-z)*(n.y+n.z*(x+z))=0:=by grind
 have m1:=(zoe.1 U).resolve_left J;have Z:=(zoe.1 O).resolve_left H;have g3:n.z*(y-z)=0:=by grind
 have M:=(zoe.1 g3).resolve_right D;exact hn (by rw[qS];exact⟨show n.x=0 by grind,show n.y=0 by grind,M⟩)
theorem zU1{d:Pt}(hd:d≠zT){i j:Nat}(h:i≠j)(hi:zY d (vK i)=zT)(hj:zY d (vK j)=zT):False:=by
 have H:=congrArg T3.z hi;have D:=congrArg T3.z hj;have J:=congrArg T3.y hi;have o:((1:Int):Rat)=1:=I;have U:d.x*((i:Int):Rat)-d.y*1=0:=H;have Z:d.x*((j:Int):Rat)-d.y*1=0:=D;have O:d.z*1-d.x*(((i:Int)*(i:Int):Int):Rat)=0:=J;have M:((i:Int):Rat)-((j:Int):Rat)≠0:=λe=>h (by
  have:=Rat.intCast_inj.1 (show((i:Int):Rat)=((j:Int):Rat) by grind);omega)
 have g:d.x*(((i:Int):Rat)-((j:Int):Rat))=0:=by grind
 have C:=(zoe.1 g).resolve_right M;exact hd (by
  rw[qS];rw[C] at U O;exact⟨C,show d.y=0 by grind,show d.z=0 by grind⟩)
theorem zYT{s:Sd}(h:kZ s)(p:Pt){d d0:Pt}(hd:d≠zT)(hd0:d0≠zT):∃k:Nat,zGQ s p (vK k)/\(∀f,f<s.2.1.length->cnF s (vK k) f≠0)/\zY d (vK k)≠zT/\zY d0 (vK k)≠zT:=by
 have M:=pS h;have H:=aW h;obtain⟨k,hk,D⟩:=zOI (λ(q:Nat->Prop) (k:Nat)=>q k) ((sfE s s.2.1.length).map (λ(e:PIr) (k:Nat)=>lI p (ptI s.1 e.1) (ptI s.1 e.2) (vK k))++((List.range s.2.1.length).map (λ(f k:Nat)=>cnF s (vK k) f=0)++[λk:Nat=>zY d (vK k)=zT,λk:Nat=>zY d0 (vK k)=zT])) (List.range (2*((sfE s s.2.1.length).map (λ(e:PIr) (k:Nat)=>lI p (ptI s.1 e.1) (ptI s.1 e.2) (vK k))++((List.range s.2.1.length).map (λ(f k:Nat)=>cnF s (vK k) f=0)++[λk:Nat=>zY d (vK k)=zT,λk:Nat=>zY d0 (vK k)=zT])).length+1)) List.nodup_range (by rw[List.length_range];omega) λq C i j k h1 h2 h3 a b c=>by
  rw[List.mem_append,List.mem_append] at C
  rcases C with C|C|C
  · obtain⟨e,J,rfl⟩:=List.mem_map.1 C
    exact yD2 (yDO J) h1 h2 h3 a b c
  · obtain⟨f,hf,rfl⟩:=List.mem_map.1 C
    exact vk_3 (H f (zog.1 hf)).1 h1 h2 h3 a b c
  · simp only[List.mem_cons,List.not_mem_nil,or_false] at C
    rcases C with rfl|rfl
    · exact zU1 hd h1 a b
    · exact zU1 hd0 h1 a b
 refine⟨k,(zKR M p _).2 λe J=>?_,λf hf=>?_,?_,?_⟩
 · exact D _ (List.mem_append_left _ (List.mem_map.2 ⟨e,J,I⟩))
 · exact D _ (List.mem_append_right _ (List.mem_append_left _ (List.mem_map.2 ⟨f,zog.2 hf,I⟩)))
 · exact D _ (List.mem_append_right _ (List.mem_append_right _ (.head _)))
 · exact D _ (List.mem_append_right _ (List.mem_append_right _ (.tail _ (.head _))))
theorem yJ1{N d G:Pt}(hG:zE N G≠0)(hp:zY d G≠zT):tuT N d G≠zT:=λe=>hp (by
 unfold tuT xZ scT at e;rw[qS] at e;obtain⟨e1,e2,e3⟩:=e;have z:(zT:Pt).x=0/\(zT:Pt).y=0/\(zT:Pt).z=0:=⟨rfl,rfl,rfl⟩;simp only at e1 e2 e3;generalize zE N G=g at *;generalize zE N d=c at *;have core:∀x:Rat,g*x=0->x=0:=λx e=>(zoe.1 e).resolve_left hG;unfold zY;rw[qS];exact⟨core _ (by simp only;grind),core _ (by simp only;grind),core _ (by simp only;grind)⟩)
theorem zHG{s:Sd}(h:kZ s)(hw:wnP s){p d d0:Pt}(ho:¬onB s p)(hd:d≠zT)(hb:nbS s p d)(hd0:d0≠zT)(hb0:nbS s p d0):crS s p d s.2.1.length=crS s p d0 s.2.1.length:=by
 obtain⟨k,hk,hc,h1,h2⟩:=zYT h p hd hd0;have hbk:=zFS h hk;have key:∀x:Pt,zY x (vK k)≠zT->nbS s p x->crS s p x s.2.1.length=crS s p (vK k) s.2.1.length:=λx hx hbx=>by
  have hn:∀n,n<=s.2.1.length->kES s p x (vK k) n=crS s p x n-crS s p (vK k) n:=by
   intro n
   induction n with
   |zero=>intro _;rfl
   |succ n ih=>
    intro hn
    show kES s p x (vK k) n+kE x (vK k) (edS s p n)=crS s p x n+crE s p x n-(crS s p (vK k) n+crE s p (vK k) n)
    rw[ih zoq,zUC (aW h) hw (show n<s.2.1.length by omega) (λe=>ho ⟨n,by omega,e⟩) (hbx n zoq) (hbk n zoq) (hc n zoq) (yJ1 (hc n zoq) hx)];omega
  have:=hn _ (Nat.le_refl _);rw[zYC h] at this;omega
 rw[key d h1 hb,key d0 h2 hb0]
theorem yG0{N:Pt}(hN:N≠zT){X Y:Pt}(h:zE N X=zE N Y)(hi:X.at (axI N)=Y.at (axI N))(hj:X.at (axJ N)=Y.at (axJ N)):X=Y:=by
 have C:∀n x y:Rat,n≠0->n*x=n*y->x=y:=λn x y h e=>by
  have:n*(x-y)=0:=by grind
  have:=(zoe.1 this).resolve_left h;grind
 refine six hN (M:=λi j J e=>zE N X=zE N Y->X.at i=Y.at i->X.at j=Y.at j->X=Y) ?_ ?_ ?_ ?_ ?_ ?_ h hi hj
 · intro c h hi hj
   have H:X.x=Y.x:=hi;have D:X.y=Y.y:=hj;unfold zE at h;rw[qS];exact⟨H,D,C N.z _ _ zow zow⟩
 · intro c h hi hj
   have H:X.y=Y.y:=hi;have D:X.x=Y.x:=hj;unfold zE at h;rw[qS];exact⟨D,H,C N.z _ _ zow zow⟩
 · intro z c h hi hj
   have H:X.z=Y.z:=hi;have D:X.x=Y.x:=hj;unfold zE at h;rw[qS];exact⟨D,C N.y _ _ zow zow,H⟩
 · intro z c h hi hj
   have H:X.x=Y.x:=hi;have D:X.z=Y.z:=hj;unfold zE at h;rw[qS];exact⟨H,C N.y _ _ zow zow,D⟩
 · intro z y c h hi hj
   have H:X.y=Y.y:=hi;have D:X.z=Y.z:=hj;unfold zE at h;rw[qS];exact⟨C N.x _ _ zow zow,H,D⟩
 · intro z y c h hi hj
   have H:X.z=Y.z:=hi;have D:X.y=Y.y:=hj;unfold zE at h;rw[qS];exact⟨C N.x _ _ zow zow,D,H⟩
theorem zW2{N A B x:Pt}(hN:N≠zT){D:Rat}(hA:zE N A=D)(hB:zE N B=D)(hx:zE N x=D)(h:onS (pr A (axI N) (axJ N)) (pr B (axI N) (axJ N)) (pr x (axI N) (axJ N))):∃t:Rat,0<=t/\t<=1/\x=xZ A (scT t (yO B A)):=by
 have M:∀t n,(xZ A (scT t (yO B A))).at n=A.at n+t*(B.at n-A.at n):=λt n=>by
  unfold xZ scT yO
  match n with
  |0=>simp only[T3.at]
  |1=>simp only[T3.at]
  |_+2=>simp only[T3.at]
 have H:∀t,0<=t->t<=1->x.at (axI N)=A.at (axI N)+t*(B.at (axI N)-A.at (axI N))->x.at (axJ N)=A.at (axJ N)+t*(B.at (axJ N)-A.at (axJ N))->∃t:Rat,0<=t/\t<=1/\x=xZ A (scT t (yO B A)):=λt h0 h1 e1 e2=>
  ⟨t,h0,h1,yG0 hN (by rw[zCN,hA,hB,hx];grind) (by rw[M];exact e1) (by rw[M];exact e2)⟩
 obtain⟨b1,b2,b3⟩:=h;unfold qP pr at b1 b2;unfold cr pr at b3;simp only at b1 b2 b3;generalize ab:A.at (axI N)=ai at *;generalize aa:A.at (axJ N)=aj at *;generalize B.at (axI N)=bi at *;generalize B.at (axJ N)=bj at *;generalize x.at (axI N)=xi at *;generalize x.at (axJ N)=xj at *;have C:∀a b y:Rat,a≠b->(a<=y/\y<=b)\/(y<=a/\b<=y)->∃t,0<=t/\t<=1/\y=a+t*(b-a):=λa b y Z h=>by
  have hz:=zUS (a:=y-a) (b:=y-b);have hd:b-a≠0:=λe=>Z zow;refine⟨(y-a)/(b-a),?_,?_,by grind⟩
  · have e:(y-a)/(b-a)*(b-a)=y-a:=by grind
    generalize (y-a)/(b-a)=t at *;refine Rat.not_lt.1 λht=>?_
    rcases(show a<b\/b<a by grind) with c|c
    · have:=xD (show 0< -t by grind) (show 0<b-a by grind);grind
    · have:=xD (show 0< -t by grind) (show 0<a-b by grind);grind
  · have e:(y-a)/(b-a)*(b-a)=y-a:=by grind
    generalize (y-a)/(b-a)=t at *;refine Rat.not_lt.1 λht=>?_
    rcases(show a<b\/b<a by grind) with c|c
    · have:=xD (show 0<t-1 by grind) (show 0<b-a by grind);grind
    · have:=xD (show 0<t-1 by grind) (show 0<a-b by grind);grind
 have J:∀n x y:Rat,n≠0->n*x=n*y->x=y:=λn x y h e=>by
  have:n*(x-y)=0:=by grind
  have:=(zoe.1 this).resolve_left h;grind
 by_cases c1:ai=bi
 · by_cases c2:aj=bj
   · exact H 0 zot zot zow zow
   · obtain⟨t,U,O,e⟩:=C aj bj xj c2 b2
     exact H t U O zow e
 · obtain⟨t,U,O,e⟩:=C ai bi xi c1 b1
   exact H t U O e (J (bi-ai) _ _ (λe=>c1 zow) zow)
theorem zX9{N L A B e:Pt}(hN:N≠zT)(hA:zE N A=zE N N)(hB:zE N B=zE N N)(he:zE N e=0)(hz:e≠zT)(hl:0<zE L e)(lA:zE L A<zE L N)(lB:zE L B<zE L N):kp N e A B=0:=by
 have D:yB B N e*zE L A-yB A N e*zE L B=yB A B N*zE L e-yB A B e*zE L N:=by unfold yB zE zY;grind
 have Z:=yIP (A:=A) (B:=B) (d:=N) hA hB I he;have C:yB A B e= -(yB B N e-yB A N e):=by
  have hd:zE N N≠0:=cF hN;generalize zE N N=n at *;have:n*(yB A B e- -(yB B N e-yB A N e))=0:=by grind
  have:=(zoe.1 this).resolve_left hd;grind
 have h2:yB B N e*zE L A-yB A N e*zE L B=(yB B N e-yB A N e)*zE L N+yB A B N*zE L e:=by rw[D,C];grind
 unfold kp kq;generalize yB A N e=a at *;generalize yB B N e=b at *;generalize yB A B N=m at *;generalize zE L A=la at *;generalize zE L B=lb at *;generalize zE L N=ln at *;generalize zE L e=le at *;rw[if_neg,if_neg]
 · rintro⟨⟨J,c2⟩,H,c4⟩
   have U:=xD (show 0< -m by grind) hl;have O:=zod (show 0<= -b by grind) (show 0<=ln-la by grind);have M:=xD J (show 0<ln-lb by grind);grind
 · rintro⟨⟨J,c2⟩,H,c4⟩
   have U:=xD H hl;have O:=xD c2 (show 0<ln-la by grind);have M:=zod (show 0<= -a by grind) (show 0<=ln-lb by grind);grind
section
variable {s:Sd}{f:Nat}(hs:zM2 s)(hw:wnP s)(hf:f<s.2.1.length)
include hs hw hf
theorem zUY{x L:Pt}{c:Rat}(hx:hnF s x f=0)(hc:∀l,l<(xE s f).length->∀k,k<(gl (xE s f) l).length->zE L (gp (gl (xE s f) l) k)<=c)(hl:c<zE L x):whF s f x= -1:=by
 have hN:=(hs f hf).1;have U:zE (yX s f) x=(s.2.1.getD f zA).1.2:=by unfold hnF at hx;grind
 have aa:∀A B t,0<=t->t<=1->zE L A<=c->zE L B<=c->zE L (xZ A (scT t (yO B A)))<=c:=λA B t h0 h1 hA hB=>by
  rw[zCN];have m1:=zod h0 (show 0<=c-zE L B by grind);have m2:=zod (show 0<=1-t by grind) (show 0<=c-zE L A by grind);grind
 have hb:whF s f x≠0:=λe=>by
  rw[zBA] at e;obtain⟨l,C,k,hk,ho⟩:=zQC e;have h1:=((hs f hf).2 l C k hk).1;have ac:=Nat.mod_lt (k+1) (show 0<(gl (xE s f) l).length by omega);have h2:=((hs f hf).2 l C _ ac).1;obtain⟨t,t0,t1,ex⟩:=zW2 hN h1 h2 U ho;have:=aa _ _ t t0 t1 (hc l C k hk) (hc l C _ ac);rw[<-ex] at this;grind
 have J:=zUU hw hf hb;have h0:wnS s f x=0:=by
  obtain⟨nk,he,hz⟩:=zIM hN;have H:=zIL hs hf (yO x (yX s f));have D:hnF s (yO x (yX s f)) f=zE (yX s f) (yX s f):=by
   have:hnF s (yO x (yX s f)) f=hnF s x f+zE (yX s f) (yX s f):=by unfold hnF zE yO;grind
   rw[this,hx];grind
  have ah:xZ (yO x (yX s f)) (scT 1 (yX s f))=x:=by
   unfold xZ yO scT;rw[qS];exact⟨by grind,by grind,by grind⟩
  have hn:=cF hN;have hm:eM (edS s (yO x (yX s f)) f) (yX s f):=λy hy ak=>by
   obtain⟨sx,l,h0,h1,hl,e⟩:=ak;have ai:=H y hy;have:=congrArg (zE (yX s f)) e;rw[zCN,zGH,ai.1,ai.2,D] at this;have l1:l=1:=by
    generalize zE (yX s f) (yX s f)=n at *;have:n*(l-1)=0:=by grind
    have:=(zoe.1 this).resolve_left hn;grind
   have ae:=zCT hy h0 h1 e;rw[l1,ah] at ae;exact hb ae
  have w1:=(zIX hN (p:=yO x (yX s f)) (d:=yX s f) (c:=zE (yX s f) (yX s f)) (t:=1) I zot (h:=hnF s (yO x (yX s f)) f) (by rw[D];grind) hn (xE s f) _ H).1 (nN hN);rw[ah] at w1;have ap:dU (edS s (yO x (yX s f)) f):=iT _ (xE s f) _
  -- the direction in the plane that zDM up
  have ad:zE (yX s f) (xZ (scT (zE (yX s f) (yX s f)) L) (scT (-zE L (yX s f)) (yX s f)))=0:=by unfold zE xZ scT;grind
  have am:zE (yX s f) (yX s f)*zE L (xZ (scT (zE (yX s f) (yX s f)) L) (scT (-zE L (yX s f)) (yX s f)))=zE (xZ (scT (zE (yX s f) (yX s f)) L) (scT (-zE L (yX s f)) (yX s f))) (xZ (scT (zE (yX s f) (yX s f)) L) (scT (-zE L (yX s f)) (yX s f))):=by unfold zE xZ scT;grind
  have an:∀A,zE (yX s f) A=(s.2.1.getD f zA).1.2->zE L (xZ (scT (zE (yX s f) (yX s f)) L) (scT (-zE L (yX s f)) (yX s f)))=zE L (xZ (scT (zE (yX s f) (yX s f)) L) (scT (-zE L (yX s f)) (yX s f))):=λ_ _=>I;generalize ao:xZ (scT (zE (yX s f) (yX s f)) L) (scT (-zE L (yX s f)) (yX s f))=e at *
  by_cases hze:e=zT
  · -- all points of the plane are on one level
    have ab:∀A,zE (yX s f) A=(s.2.1.getD f zA).1.2->zE L A=zE L x:=λA hA=>by
     have h1:zE (yX s f) (yX s f)*(zE L A-zE L x)=zE e (yO A x)+zE L (yX s f)*(zE (yX s f) A-zE (yX s f) x):=by rw[<-ao];unfold zE xZ scT yO;grind
     rw[hze,hA,U] at h1;have z:zE zT (yO A x)=0:=by unfold zE;have:(zT:Pt).x=0/\(zT:Pt).y=0/\(zT:Pt).z=0:=⟨I,I,I⟩;grind
     rw[z] at h1;have h2:zE (yX s f) (yX s f)*(zE L A-zE L x)=0:=by grind
     have:=(zoe.1 h2).resolve_left hn;grind
    have:xE s f=[]\/∀l,l<(xE s f).length->(gl (xE s f) l).length=0:=.inr λl C=>Nat.eq_zero_of_not_pos λhp=>by
     have h1:=((hs f hf).2 l C 0 hp).1;have h2:=ab _ h1;have h3:=hc l C 0 hp;rw[h2] at h3;grind
    have Z:edS s (yO x (yX s f)) f=[]:=List.eq_nil_iff_forall_not_mem.2 λy hy=>by
     obtain⟨l,k,C,hk,_⟩:=zAW hy
     rcases this with e0|e0
     · rw[e0] at C;exact absurd C (Nat.not_lt_zero _)
     · have:=e0 l C;omega
    rw[show nW (yO x (yX s f)) (xE s f) (xE s f).length=[] from Z] at w1;exact w1
  · have aj:0<zE L e:=by
     have h1:=nN hze;have h2:=nN hN;refine Rat.not_le.1 λh3=>?_;have h4:=zod (Rat.le_of_lt h2) (show 0<= -zE L e by grind);have h5:zE (yX s f) (yX s f)*zE L e=zE e e:=am;grind
    have k1:=(zCG hN ap H (by rw[D];exact hn) hm hn he ad hz hze).1;have k2:kE (yX s f) e (edS s (yO x (yX s f)) f)=0:=zA2 λy hy=>by
     have M:=H y hy;rw[D] at M;obtain⟨l,k,C,hk,rfl⟩:=zAW hy;have O:∀A,zE L A<=c->zE L (yO A (yO x (yX s f)))<zE L (yX s f):=λA hA=>by
      have:zE L (yO A (yO x (yX s f)))=zE L A-zE L x+zE L (yX s f):=by unfold zE yO;grind
      rw[this];grind
     exact zX9 hN M.1 M.2 ad hze aj (O _ (hc l C k hk)) (O _ (hc l C _ (Nat.mod_lt _ zoq)))
    exact w1.trans (k1.trans k2)
 rw[h0] at J;have hr:=zSC s f x
 split at J
 · exact absurd J zot
 · omega
end
def yEB(s:Sd):Prop:=∀f,f<s.2.1.length->∀g,g<s.2.1.length->∀l,l<(xE s g).length->∀k,k<(gl (xE s g) l).length->zE (yX s f) (gp (gl (xE s g) l) k)<=(s.2.1.getD f zA).1.2
section
variable {s:Sd}(h:kZ s)(hw:wnP s)(hc:yEB s)
include h hw hc
theorem zUX{f g:Nat}(hf:f<s.2.1.length)(hg:g<s.2.1.length){x:Pt}(hx:hnF s x g=0)(hl:hnF s x f<0):whF s g x= -1:=
 zUY (aW h) hw hg (L:=yX s f) (c:=(s.2.1.getD f zA).1.2) hx (hc f hf g hg) (by unfold hnF at hl;grind)
omit h hw hc in
theorem yDS{p:Pt}{g:Nat}(ho:onP s p g):hnF s p g=0/\0<=whF s g p:=by
 refine⟨?_,ho.2⟩;have:=uF.1 (show yV (hgt (s.2.1.getD g zA).1 p)=0 from ho.1);unfold hgt at this;unfold hnF;grind
omit h hw hc in
theorem zJB(p d:Pt)(f:Nat)(t:Rat):hnF s (pO p d t) f=hnF s p f-t*cnF s d f:=by
 unfold hnF cnF;rw[zRQ];grind
omit h hw hc in
theorem zVO{p d:Pt}{g:Nat}(hk:¬skP s p d g):cnF s d g≠0/\0<hnF s p g/cnF s d g/\hnF s p g/cnF s d g*cnF s d g=hnF s p g:=by
 have C:(0<cnF s d g/\0<hnF s p g)\/(cnF s d g<0/\hnF s p g<0):=Classical.not_not.1 λe=>hk (by unfold skP;rw[aX];exact e);have hc:cnF s d g≠0:=λe=>by rw[e] at C;rcases C with h|h<;>exact absurd h.1 zot
 have htc:hnF s p g/cnF s d g*cnF s d g=hnF s p g:=by generalize cnF s d g=c at *;grind
 refine⟨hc,Rat.not_le.1 λe=>?_,htc⟩
 rcases C with h|h
 · have:=zod (show 0<= -(hnF s p g/cnF s d g) by grind) (Rat.le_of_lt h.1);grind
 · have:=zod (show 0<= -(hnF s p g/cnF s d g) by grind) (show 0<= -cnF s d g by grind);grind
omit h hw hc in
theorem zGK{p d:Pt}:∀n,(∀g,g<n->crE s p d g=0)->crS s p d n=0
  |0,_=>rfl
  |n+1,h=>by
   show crS s p d n+crE s p d n=0
   rw[zGK n λg hg=>h g zoq,h n zoq];rfl
omit h hw hc in
theorem zRV{p d:Pt}{f:Nat}:∀n,f<n->(∀g,g<n->crE s p d g=if g=f then 1 else 0)->crS s p d n=1
  |0,hf,_=>absurd hf (Nat.not_lt_zero _)
  |n+1,hf,h=>by
   show crS s p d n+crE s p d n=1
   rw[h n zoq]
   by_cases e:n=f
   · rw[if_pos e,zGK n λg hg=>by rw[h g zoq,if_neg zoq]];rfl
   · rw[if_neg e,zRV n zoq λg hg=>h g zoq];rfl
theorem yIU{p:Pt}{f:Nat}(hf:f<s.2.1.length)(hp:hnF s p f<0):¬onB s p/\t6 s p=0:=by
 have H:¬onB s p:=λ⟨g,D,e⟩=>by
  obtain⟨O,U⟩:=yDS e;have:=zUX h hw hc hf D O hp;omega
 refine⟨H,?_⟩;have hN:=(aW h f hf).1;have C:∀g,g<s.2.1.length->¬skP s p (yX s f) g->whF s g (pO p (yX s f) (hnF s p g/cnF s (yX s f) g))= -1:=λg D hk=>by
  obtain⟨h1,h2,h3⟩:=zVO hk;refine zUX h hw hc hf D (by rw[zJB,h3];grind) ?_;rw[zJB];have M:cnF s (yX s f) f=zE (yX s f) (yX s f):=I;have:=xD h2 (nN hN);rw[M];grind
 have J:nbS s p (yX s f):=λg D e=>by
  have:=C g D e.1;have:=e.2;omega
 unfold t6;rw[if_neg H,zHG h hw H (zU2 (dirN s p:Int)) (zFS h (iS (pS h) p).2.1) hN J];refine zGK _ λg D=>?_;unfold crE
 by_cases hk:skP s p (yX s f) g
 · rw[if_pos hk]
 · rw[if_neg hk,if_neg (by rw[C g D hk];decide)]
theorem yLM{p c0:Pt}{f:Nat}(hf:f<s.2.1.length)(hp:∀g,g<s.2.1.length->0<hnF s p g)(hx:hnF s c0 f=0)(hx1:whF s f c0=1)(hx2:∀g,g<s.2.1.length->g≠f->0<hnF s c0 g):¬onB s p/\t6 s p=1:=by
 have ho:¬onB s p:=λ⟨g,H,e⟩=>by
  have:=(yDS e).1;have:=hp g H;grind
 refine⟨ho,?_⟩;have Z:∀g,cnF s (yO c0 p) g=hnF s p g-hnF s c0 g:=λg=>by unfold cnF hnF zE yO;grind
 have O:pO p (yO c0 p) 1=c0:=by
  unfold pO xZ scT yO;rw[qS];exact⟨by grind,by grind,by grind⟩
 have J:cnF s (yO c0 p) f=hnF s p f:=by rw[Z,hx];grind
 have D:=hp f hf;have hd:yO c0 p≠zT:=λe=>by
  have h1:cnF s (yO c0 p) f=0:=by
   rw[e];unfold cnF zE;have:(zT:Pt).x=0/\(zT:Pt).y=0/\(zT:Pt).z=0:=⟨I,I,I⟩;grind
  grind
 have aa:¬skP s p (yO c0 p) f:=by
  unfold skP;rw[aX,J];exactλe=>e (.inl ⟨D,D⟩)
 have U:hnF s p f/cnF s (yO c0 p) f=1:=by
  rw[J];generalize hnF s p f=x at *;have:x≠0:=λe=>by grind
  grind
 have M:∀g,g<s.2.1.length->g≠f->¬skP s p (yO c0 p) g->whF s g (pO p (yO c0 p) (hnF s p g/cnF s (yO c0 p) g))= -1:=λg H C hk=>by
  obtain⟨h1,h2,h3⟩:=zVO hk;refine zUX h hw hc hf H (by rw[zJB,h3];grind) ?_;rw[zJB,J];have h4:=hx2 g H C;have h5:=Z g;have h6:=hp g H;generalize hnF s p g/cnF s (yO c0 p) g=t at *;generalize cnF s (yO c0 p) g=c at *;have ht:1<t:=by
   refine Rat.not_le.1 λe=>?_;have ab:0<c:=by
    refine Rat.not_le.1 λe2=>?_;have:=zod (Rat.le_of_lt h2) (show 0<= -c by grind);grind
   have:=zod (show 0<=1-t by grind) (Rat.le_of_lt ab);grind
  have:=xD (show 0<t-1 by grind) D;grind
 have hb:nbS s p (yO c0 p):=λg H e=>by
  by_cases C:g=f
  · subst C
    have:=e.2;rw[U,O,hx1] at this;exact absurd this zot
  · have:=M g H C e.1
    have:=e.2;omega
 unfold t6;rw[if_neg ho,zHG h hw ho (zU2 (dirN s p:Int)) (zFS h (iS (pS h) p).2.1) hd hb];refine zRV _ hf λg H=>?_;unfold crE
 by_cases C:g=f
 · subst C
   rw[if_neg aa,U,O,if_pos hx1,if_pos I,if_pos (by rw[J];exact D)]
 · rw[if_neg C]
   by_cases hk:skP s p (yO c0 p) g
   · rw[if_pos hk]
   · rw[if_neg hk,if_neg (by rw[M g H C hk];decide)]
end
end Bk
