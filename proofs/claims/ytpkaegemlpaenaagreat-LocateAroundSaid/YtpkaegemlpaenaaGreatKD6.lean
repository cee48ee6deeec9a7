/- Texts that the proof needs, part 6. -/
import Derived.Test.YtpkaegemlpaenaaGreatKD5
set_option linter.unusedVariables false
set_option linter.unusedSimpArgs false
noncomputable section
set_option maxRecDepth 10000
set_option maxHeartbeats 1000000
namespace Go.Proofs.YtpkaegemlpaenaaGreat
open Bk Go Tryz
attribute [local irreducible] GL GC GQ W OpV
theorem vY{w0:World}{h0:Mem}(hs:MLe h0 (mem w0)){n:Int}(hn1:-9223372036854775808<=n)(hn2:n<9223372036854775808):
 Calls prog 88 #[vI n] w0 (Ret w0 h0 (λh r=>qF.Is h r (qU ((n:Int):Rat)))):=by
 refine cb1 6 (vI n) func88 hs ?_;refine zR (zF (asg I I (yA (zI (zR (zF (mv I I (cL (ev1 I) call27 (λw hs=>gJ hs oM oM) λv4 h1 ab r4=>?_))))))));obtain⟨M,O,C,D,H,J⟩:=qW r4;subst C;refine cL (ev1 I) call134 (λw hs=>zU4 hs D H oM) λv5 h2 aa U=>?_;subst U;have Z:=zA1 ((n:Int):Rat);refine asg I I (yA (zI (lP (zC I I ?_))));exact(bG (yCF ((n:Int):Rat)))
set_option maxHeartbeats 1000000 in
theorem zJK{w0:World}{h0:Mem}(hs:MLe h0 (mem w0)){k l1 l2:Nat}{vL:Value}{L:(List (List Tq))}(rL:(tLL k).Is h0 vL L){vlo:Value}{lo:Rat}(rlo:(rpQ l1).Is h0 vlo lo){vhi:Value}{hi:Rat}(rhi:(rpQ l2).Is h0 vhi hi)(hcd0:k<=20)(hcd1:l1<=20)(hcd2:l2<=20)(hcd3:∀x,x∈L->cY x)(hcd4:prE L lo hi=0->okS (prR L lo hi)):
 Calls prog 46 #[vL,vlo,vhi] w0 (tO w0 h0 (λh r L_=>∃u0 vF cs,r=.tuple #[u0,vI (prE L lo hi)]/\(rpP (tLs (k+l1+l2+20)) (rpP rpV (rpS (rpP rpI (rpP rpI (rpQ 5)))))).Is h u0 (prP L lo hi,(vF,[]))/\L_=[.gs 53 14 vF (prF L lo hi).length cs]/\vF.oneCell'=true/\RL (tFc (1000*k+1000*l1+1000*l2+2000) (1000*k+1000*l1+1000*l2+2000)) h cs (prF L lo hi))):=by
 refine cb3 341 vL vlo vhi func46 hs ?_;refine zR (zF (nB rlo λb4 eb dd=>(nB rhi λb5 ea dc=>(nA (ρ:=(rpP (tLs 1) (rpP rpV (rpS (rpP rpI (rpP rpI (rpQ 1))))))) (X:=([],((Value.slice none 0 0),[]))) qX (yE wK (yE fC wK)) λb6 dz bj=>(asg (v:=vI (0)) I I (yA (zI (zR (zR (zF (mv I I (cL (ev1 I) call85 (λw hs=>zJI hs rL oM (by first|omega|exact hcd3)) λv36 h1 dw tc=>?_))))))))))));obtain⟨jr,rfl,ly⟩:=tc
 change (rpS rpI).Is h1 jr (sO L 0 1) at ly
 refine mv I I (gv (fF (vs:=[_,_]) I I) I (gv (fF (vs:=[_,_]) I I) I (asg I I (asg I I (yA (zI (zR (zF (mv I I (gv (bY (q:=0) I I) I (yA (vZ (e':=[(0,_),(4,_),(5,_),(6,_),(9,_),(40,_)]) e6z (zI ?_)))))))))))));refine cnd (λgm=>?_) λgm=>?_
 ·
  refine zR (zF (lX (xV (ρ:=(rpP (tLs 1) (rpP rpV (rpS (rpP rpI (rpP rpI (rpQ 1))))))) (wE (ps':=[]) underlying39 qX I I (rK underlying39) trivial I (yE wK (yE fC wK)) zP)) λv41 tb=>(mv I I ?_)));replace bj:=bj.mono dw;refine yD (A:=[]) (uB sizeOf39 pH bj tb) λzh og=>(asg I I (yA (zI (lP (nW ?_)))));obtain⟨e1,e2,e3⟩:=pr_1 (lo:=lo) (hi:=hi) gm;rw[e1,e2,e3];refine aX 53 14 ?_;have od:=RL.nil (ρ:=rpP (tPl (1000*k+1000*l1+1000*l2+2000) (1000*k+1000*l1+1000*l2+2000)) (rpP tII qF)) (h:=h1);refine vM (gG (t:=6) jV mh1 I og) ?_;intro zm lz ob;refine kV (.cons_cons _ (zsu _)) (λE S=>jW I lz (tH I) E S) ?_;exact⟨_,_,_,I,(Rp.Is.le ob (Le.p (Le.s (Le.t (Le.q (l:=k+l1+l2+20) oM))) (Le.p (Le.refl _) (Le.s (Le.p (Le.refl _) (Le.p (Le.refl _) (Le.q (l:=5) dC))))))),I,I,od⟩
 refine qG (zI (zR (zR (zF (mv I I ?_)))));have gh:uG L 0 1=0:=zdi gm;have du:=yE0 gh;have mm:=yB0 du.2;replace rL:=rL.mono dw;refine cL (ev1 I) call86 (λw hs=>zJL hs rL oM (by first|omega|exactλl hl=>zci (du.2 l hl) dC) (by first|omega|exactλl hl=>zci (du.2 l hl) dC)) λsd h2 el ta=>?_;obtain rfl:sd=vI (ouZ L):=ta;have tj:=zBJ L L.length;refine gv (bY (q:=1) I I) I (yA (zI ?_));refine cnd (λdy=>?_) λdy=>?_
 ·
  refine zR (zF (lX (xV (ρ:=(rpP (tLs 1) (rpP rpV (rpS (rpP rpI (rpP rpI (rpQ 1))))))) (wE (ps':=[]) underlying39 qX I I (rK underlying39) trivial I (yE wK (yE fC wK)) zP)) λv46 sy=>?_));replace bj:=bj.mono (dw.trans el);refine yD (A:=[]) (uB sizeOf39 pH bj sy) λzg oe=>(asg (v:=vI (33)) I I (yA (zI (lP (nW ?_)))));obtain⟨e1,e2,e3⟩:=yNR (lo:=lo) (hi:=hi) gh dy;rw[e1,e2,e3];refine aX 53 14 ?_;have oc:=RL.nil (ρ:=rpP (tPl (1000*k+1000*l1+1000*l2+2000) (1000*k+1000*l1+1000*l2+2000)) (rpP tII qF)) (h:=h2);refine vM (gG (t:=6) jV mh1 I oe) ?_;intro vf iz kg;refine kV (.cons_cons _ (zsu _)) (λE S=>jW I iz (tH I) E S) ?_;exact⟨_,_,_,I,(Rp.Is.le kg (Le.p (Le.s (Le.t (Le.q (l:=k+l1+l2+20) oM))) (Le.p (Le.refl _) (Le.s (Le.p (Le.refl _) (Le.p (Le.refl _) (Le.q (l:=5) dC))))))),I,I,oc⟩
 refine qG (zI (zR (zR (zF ?_))));replace dd:=dd.mono (dw.trans el);refine lX (xB yI pH dd) λv47 sx=>?_;replace dc:=dc.mono (dw.trans el);refine lX (xB yI pH dc) λv48 sw=>(cL (ev2 I I) call17 (λw hs=>tK hs sx sw oM) λsc h3 dv sv=>?_);obtain rfl:sc=vI (xU lo hi):=sv;have ud:=jF lo hi;refine gv (rN (q:=0) I I) I (yA (zI ?_));refine cnd (λfd=>?_) λfd=>?_
 ·
  refine zL6 (e':=[(6,_)]) ⟨I,y3e⟩ (zR (zF (lX (xV (ρ:=(rpP (tLs 1) (rpP rpV (rpS (rpP rpI (rpP rpI (rpQ 1))))))) (wE (ps':=[]) underlying39 qX I I (rK underlying39) trivial I (yE wK (yE fC wK)) zP)) λv51 su=>?_)));replace bj:=bj.mono ((dw.trans el).trans dv);refine yD (A:=[]) (uB sizeOf39 pH bj su) λuq lw=>(asg (v:=vI (9)) I I (yA (zI (lP (nW ?_)))));obtain⟨e1,e2,e3⟩:=pr_9 gh (zdi dy) fd;rw[e1,e2,e3];refine aX 53 14 ?_;have ku:=RL.nil (ρ:=rpP (tPl (1000*k+1000*l1+1000*l2+2000) (1000*k+1000*l1+1000*l2+2000)) (rpP tII qF)) (h:=h3);refine vM (gG (t:=6) jV mh1 I lw) ?_;intro ve iy kf;refine kV (.cons_cons _ (zsu _)) (λE S=>jW I iy (tH I) E S) ?_;exact⟨_,_,_,I,(Rp.Is.le kf (Le.p (Le.s (Le.t (Le.q (l:=k+l1+l2+20) oM))) (Le.p (Le.refl _) (Le.s (Le.p (Le.refl _) (Le.p (Le.refl _) (Le.q (l:=5) dC))))))),I,I,ku⟩
 refine qG (zI (zR (zF (nA (ρ:=(rpP rpV (rpP rpV (rpS (rpP rpI (rpP rpI (rpQ 1))))))) (X:=((Value.slice none 0 0),((Value.slice none 0 0),[]))) qX (yE fC (yE fC wK)) λab ec on=>(yA (zI (zR (zF (asg I I (yA (zI (zR (zF ?_)))))))))))));refine asg I I (yA (zI (zR (zF (asg I I (yA (zI (zR (zR (zF (asg (v:=vI (0)) I I (yA (zI ?_)))))))))))));refine uA (xN 118 2 ?_);have ks:=RL.nil (ρ:=rpA 2 rpI) (h:=h3);refine xN 31 9 ?_;have kr:=RL.nil (ρ:=rpT (rpQ (k+1))) (h:=h3);refine xN 22 1 ?_;have ko:=RL.nil (ρ:=rpS rpI) (h:=h3);refine gcL (ι:=Nat×List (List Int)×List Tq×List (List Int)×Value×List Value×Value×List Value×Value×List Value×Mem) (λ(i,ED,M,II,ae,av,D,bd,C,ax,ma)=>(MLe h3 ma/\(RL (rpA 2 rpI) ma av ED/\RL (tPt (k+1)) ma bd M/\RL (rpS rpI) ma ax II/\i<=L.length/\ED.length=iK L i/\M=ptB L i/\II=ptN L i),[(0,vL),(4,vP b4 0),(5,vP b5 0),(6,vP b6 0),(10,vP ab 0),(11,ae),(12,D),(13,C),(14,vI ↑i)],[.gs 22 1 C II.length ax,.gs 31 9 D M.length bd,.gs 118 2 ae ED.length av,.var ab 39 ec,.var b6 39 dz,.var b5 29 ea,.var b4 29 eb],ma,L.length-i)) (0,[],[],[],(.slice none 0 0),[],(.slice none 0 0),[],(.slice none 0 0),[],h3) ?_ ?_
 · exact⟨mle,ks,kr,ko,by omega,I,I,I⟩
 rintro⟨i,ED,M,II,ae,av,D,bd,C,ax,ma⟩ ⟨cg,kn,ak,ad,tv,rr,bk,ci⟩
 refine xD ?_;have ue:=zKW L i;have rk:=mm i tv;have hIl:II.length=i:=by rw[ci];exact yY _ _
 rw[<-bk] at ue;refine zR (zR (zF (mv I I (mv I I ?_))));replace rL:=rL.mono ((el.trans dv).trans cg);refine gv (qO underlying76 I rL) I (gv (yO I I) I (yA (zI ?_)));refine cnd (λrq=>?_) λrq=>?_
 ·
  refine qG (zI (zR (uA (zR (zF (asg I I (yA (zI (zR (zR (zF (asg (v:=vI (0)) I I (yA ?_)))))))))))));refine zI (uA (xN 3 1 ?_));have km:=RL.nil (ρ:=rpI) (h:=ma);refine gcL (ι:=Nat×List Tq×List Int×Value×List Value×Value×List Value×Mem) (λ(q,B2,LN,O,bl,be,dl,mb)=>(MLe ma mb/\(RL (tPt (k+1)) mb bl B2/\RL rpI mb dl LN/\q<=(L.getD i []).length/\B2=plB (ptB L i) (L.getD i []) q/\LN=plN (ptB L i) (L.getD i []) q),[(0,vL),(4,vP b4 0),(5,vP b5 0),(6,vP b6 0),(10,vP ab 0),(11,ae),(12,O),(13,C),(14,vI ↑i),(15,be),(16,vI ↑q)],[.gs 3 1 be LN.length dl,.gs 22 1 C II.length ax,.gs 31 9 O B2.length bl,.gs 118 2 ae ED.length av,.var ab 39 ec,.var b6 39 dz,.var b5 29 ea,.var b4 29 eb],mb,(L.getD i []).length-q)) (0,M,[],D,bd,(.slice none 0 0),[],ma) ?_ ?_
  · exact⟨mle,ak,km,by omega,by rw[bk];rfl,I⟩
  rintro⟨q,B2,LN,O,bl,be,dl,mb⟩ ⟨jo,aj,bh,hq1,fg,je⟩
  refine xD ?_;have uf:=zKY (ptB L i) (L.getD i []) q;rw[<-fg,<-bk] at uf;have ug:LN.length=q:=by rw[je];exact yY _ _
  have iw:=du.2 i oM;refine zR (zR (zF (mv I I (mv I I (mv I I ?_)))));replace rL:=rL.mono jo;refine lX (xI [] i underlying76 qD rL) λzz ss=>(lX (xA qD ss) λzy sr=>(gv (qO underlying35 I sr) I (gv (yO I I) I (yA (zI ?_)))));refine cnd (λrp=>?_) λrp=>?_
  ·
   refine qG (zI (zR (uA (zR (zF (asg (v:=vI (-1)) I I (yA (zI (zR (zR (zF (asg (v:=vI (0)) I I (yA ?_)))))))))))));refine zI (uA ?_);refine gcL (ι:=Nat×Mem) (λ(j,mj)=>(MLe mb mj/\(j<=B2.length),[(0,vL),(4,vP b4 0),(5,vP b5 0),(6,vP b6 0),(10,vP ab 0),(11,ae),(12,O),(13,C),(14,vI ↑i),(15,be),(16,vI ↑q),(17,vI (u5 B2 ((L.getD i []).getD q zT) j)),(18,vI ↑j)],[.gs 3 1 be LN.length dl,.gs 22 1 C II.length ax,.gs 31 9 O B2.length bl,.gs 118 2 ae ED.length av,.var ab 39 ec,.var b6 39 dz,.var b5 29 ea,.var b4 29 eb],mj,B2.length-j)) (0,mb) ?_ ?_
   · exact⟨mle,oM⟩
   rintro⟨j,mj⟩ ⟨cq,rj⟩
   refine xD ?_;have hj1:=rj;have hfr:=zHN B2 ((L.getD i []).getD q zT) j;refine zR (zR (zF (mv I I (mv I I (gv (kF mh2 underlying35 I) I (gv (yO I I) I (yA (zI ?_))))))));refine cnd (λro=>?_) λro=>?_
   ·
    refine qG (zI (zR (uA (zR ?_))));refine zL 30 _ [] (zai 0 13 ((13,.c)::zai 14 14 [(28,.c),(29,.q)])) yF nX (wS zou) nX (λr hr=>hr) (qV I I I (qV I I I (w_q I (λh' L' hh hR=>(yK j (hR _ mh2) underlying35 sizeOf31 I I I bO nP).cv (show _=zG 1 O ((j*9+0)) from zbi (zG 1 O) zo3)) I ?_)));replace aj:=aj.mono cq;refine w_q I (λh' L' hh hR=>(sZ (sz:=3) (q:=0) 0 (y4u (y4i _) zT j bO) I nP (aj.mono hh) (hR _ mh2) underlying31 sizeOf29 I I I dC).cv (show _=zG 1 O ((j*9+0)) from zbi (zG 1 O) (by show(j*9+0)+0*3=(j*9+0);omega))) I (aI (F:=λv_=>(rpQ (k+1)).Is mj v_ ((B2.getD j zT).x)) I (xE yI (y4u (y5u (y4i _)) zT j bO) I nP I aj I) (gC mh2) I ?_);intro zx sq;refine qV I I I (qV I I I ?_);replace rL:=rL.mono cq;refine wX I (xI [] i underlying76 qD rL) λzw sp=>(wX I (xA qD sp) λzv so=>(qV I I I (wX I (xI zT q underlying35 zN so) λzu sn=>(aI (F:=λv_=>AtP (rpQ k) mj v_ (((L.getD i []).getD q zT).x)) I (zJD (q:=0) 0 underlying31 sizeOf29 (y5u (y4i _)) I I I sn I dC I) zBW I ?_))));intro zt sm;refine wX I (xA yI sm) λzs sl=>?_;refine w_c I (sC (ev2 I I) call73 (λw hs=>sM hs sq sl oM) λsb h4 ar sk=>?_);obtain rfl:sb=vB (((B2.getD j zT).x)=(((L.getD i []).getD q zT).x)):=sk;refine qV I I I ?_;refine kD (((B2.getD j zT).x)=(((L.getD i []).getD q zT).x)) (λem=>?_) (λem=>?_)
    ·
     rw[wA em];refine yV I I I (λh' L' hh hR=>xG I) I (yV I I I (λh' L' hh hR=>xG I) I (yV I I I (λh' L' hh hR=>(yK j (hR _ mh2) underlying35 sizeOf31 I I I bO nP).cv (show _=zG 1 O ((j*9+0)) from zbi (zG 1 O) zo3)) I ?_));replace aj:=aj.mono ar;refine yV I I I (λh' L' hh hR=>(sZ (sz:=3) (q:=1) 1 (y4u (y4i _) zT j bO) I nP (aj.mono hh) (hR _ mh2) underlying31 sizeOf29 I I I dC).cv (show _=zG 1 O ((j*9+3)) from zbi (zG 1 O) (by show(j*9+0)+1*3=(j*9+3);omega))) I (nH (F:=λv_=>(rpQ (k+1)).Is h4 v_ ((B2.getD j zT).y)) I I I (xE yI (y4u (y5e (y4i _)) zT j bO) I nP I aj I) (gC mh2) I ?_);intro zr sj;refine yV I I I (λh' L' hh hR=>xG I) I (yV I I I (λh' L' hh hR=>xG I) I ?_);replace rL:=rL.mono ar;refine oX I (xI [] i underlying76 qD rL) λzq si=>(oX I (xA qD si) λzp sh=>(yV I I I (λh' L' hh hR=>xG I) I (oX I (xI zT q underlying35 zN sh) λzo sf=>(nH (F:=λv_=>AtP (rpQ k) h4 v_ (((L.getD i []).getD q zT).y)) I I I (zJD (q:=1) 1 underlying31 sizeOf29 (y5e (y4i _)) I I I sf I dC I) zBW I ?_))));intro zn se;refine oX I (xA yI se) λyl rc=>?_;refine w_c I (zCW I I (sC (ev2 I I) call73 (λw hs=>sM hs sj rc oM) λoa h5 cn rb=>?_));obtain rfl:oa=vB (((B2.getD j zT).y)=(((L.getD i []).getD q zT).y)):=rb;refine xY I (λ_ _=>bA I I) I (cV (vZ (e':=[(0,_),(4,_),(5,_),(6,_),(10,_),(11,_),(12,_),(13,_),(14,_),(15,_),(16,_),(17,_),(18,_),(102,_)]) ⟨I,I,I,I,I,I,I,I,I,I,I,I,I,I,y3e⟩ (zI ?_)));refine cnd (λep=>?_) λep=>?_
     ·
      refine zF (mv I I (asg I I (yA (rO (zI (zF (mv I I (gv (zU (q:=1) I I oM oM) I (asg I I (yA ?_))))))))));refine gqL ((j+1),h5) ?_ ?_ (he:=⟨I,I,I,I,I,I,I,I,I,I,I,zbi (λz=>some (vI z)) (fd_t ⟨by assumption,ep⟩),I,y3e⟩)
      · exact⟨mle,oM⟩
      omega
     refine qG (rO (zI (zF (mv I I (gv (zU (q:=1) I I oM oM) I (asg I I (yA ?_)))))));refine gqL ((j+1),h5) ?_ ?_ (he:=⟨I,I,I,I,I,I,I,I,I,I,I,zbi (λz=>some (vI z)) (yLG (λe=>ep e.2)),I,y3e⟩)
     · exact⟨mle,oM⟩
     omega
    rw[yN em];refine uD I I I I I (uD I I I I I (uD I I I I I (uD I I I I I (uD I I I I I (uD I I I I I (uD I I I I I (uD I I I I I (uD I I I I I (uD I I I I I (uD I I I I I (uD I I I I I (uD I I I I I ?_))))))))))));refine w_c I (mO I I I I (xY I (λ_ _=>bC I I) I (cV (vZ (e':=[(0,_),(4,_),(5,_),(6,_),(10,_),(11,_),(12,_),(13,_),(14,_),(15,_),(16,_),(17,_),(18,_),(102,_)]) ⟨I,I,I,I,I,I,I,I,I,I,I,I,I,I,y3e⟩ (zI (zJ0 I (qG (rO (zI (zF (mv I I (gv (zU (q:=1) I I oM oM) I (asg I I ?_)))))))))))));refine yA ?_;refine gqL ((j+1),h4) ?_ ?_ (he:=⟨I,I,I,I,I,I,I,I,I,I,I,zbi (λz=>some (vI z)) (yLG (λe=>absurd e.1 zo4)),I,y3e⟩)
    · exact⟨mle,oM⟩
    omega
   refine fO (qB (qB (fN (zI (zR (zR (zF (mv I I (gv (yO (q:=0) I I) I (yA (zI ?_)))))))))));refine cnd (λeo=>?_) λeo=>?_
   ·
    have ej:j=B2.length:=by omega
    have dx:fdZ B2 ((L.getD i []).getD q zT)<0:=by unfold fdZ;rw[<-ej];exact eo
    refine zR (zF (mv I I (gv (kF mh2 underlying35 I) I (asg I I (yA (zI (zF (mv I I (mv I I (mv I I ?_))))))))));replace rL:=rL.mono cq;refine lX (xI [] i underlying76 qD rL) λyk ra=>(lX (xA qD ra) λyj qz=>(mv I I (lX (xI zT q underlying35 zN qz) λyi qy=>(lX (xA zN qy) λyh qx=>(zH (zJ (ρ:=(tPt (k+1))) (m:=1) (xs:=[((L.getD i []).getD q zT)]) (ps':=[(0,_)]) underlying35 yS I I I (xW (yM oM)) e2z (zD I (y4u (y4i _) zT 0 dC) (qx.le (Le.t (Le.q (l:=k+1) oM))) zP) zok nP) I I I ?_)))))
    rintro yg zc ⟨vc,rfl,ll⟩
    refine zQ (A:=[]) (ρ:=(tPt (k+1))) ll ?_;intro h4 ar kd;replace aj:=aj.mono (cq.trans ar);refine xP (A:=[_,_]) (uE (zS (ρ:=(tPt (k+1))) (bytes:=168) underlying35 yS I I I I nP I I aj kd bO bO)) I I I ?_
    rintro nz za ⟨tp,nm,rfl,lk⟩
    refine asg I I (yA (vZ (e':=[(0,_),(4,_),(5,_),(6,_),(10,_),(11,_),(13,_),(14,_),(15,_),(16,_),(17,_),(12,_)]) e12 (zI (zF (mv I I (mv I I (zH (zJ (ρ:=rpI) (m:=1) (xs:=[(↑B2.length:Int)]) (ps':=[(0,_)]) underlying22 jY I I I wL e2z (zD I (y4u (y4i _) (0:Int) 0 dC) (xZ oM oM) zP) zoj nP) I I I ?_)))))))
    rintro ny rg ⟨nl,rfl,eh⟩
    refine zQ (A:=[]) (ρ:=rpI) eh ?_;intro h5 cn kc;replace bh:=bh.mono ((cq.trans ar).trans cn);refine xP (A:=[]) (uE (zS (ρ:=rpI) (bytes:=8) underlying22 jY I I I I nP I I bh kc bO bO)) I I I ?_
    rintro fl rf ⟨ml,ey,rfl,eg⟩
    refine asg I I (yA (rO (zI (zF (mv I I (gv (zU (q:=1) I I oM oM) I (asg I I (yA ?_))))))));refine gqL ((q+1),(B2++[((L.getD i []).getD q zT)]),(LN++[(↑B2.length:Int)]),nz,nm,fl,ey,h5) ?_ ?_
    · exact⟨mle,lk.up,eg,by omega,by rw[fg] at dx ⊢;exact(zau dx).symm,by rw[je,show(↑B2.length:Int)=adN (plB (ptB L i) (L.getD i []) q) ((L.getD i []).getD q zT) from by rw[fg] at dx ⊢;exact(zau dx).symm];rfl⟩
    omega
   have ej:j=B2.length:=by omega
   have dx:¬fdZ B2 ((L.getD i []).getD q zT)<0:=by unfold fdZ;rw[<-ej];exact eo
   refine qG (zI (zF (mv I I (mv I I (zH (zJ (ρ:=rpI) (m:=1) (xs:=[(u5 B2 ((L.getD i []).getD q zT) j)]) (ps':=[(0,_)]) underlying22 jY I I I wL e2z (zD I (y4u (y4i _) (0:Int) 0 dC) (xZ oM oM) zP) zoj nP) I I I ?_)))))
   rintro ny rg ⟨nl,rfl,eh⟩
   refine zQ (A:=[]) (ρ:=rpI) eh ?_;intro h4 ar kb;replace bh:=bh.mono (cq.trans ar);refine xP (A:=[]) (uE (zS (ρ:=rpI) (bytes:=8) underlying22 jY I I I I nP I I bh kb bO bO)) I I I ?_
   rintro fl rf ⟨ml,ey,rfl,eg⟩
   refine asg I I (yA (rO (vZ (e':=[(0,_),(4,_),(5,_),(6,_),(10,_),(11,_),(12,_),(13,_),(14,_),(16,_),(15,_)]) ⟨I,I,I,I,I,I,I,I,I,I,I,y3e⟩ (zI (zF (mv I I (gv (zU (q:=1) I I oM oM) I (asg I I (yA ?_)))))))));refine gqL ((q+1),B2,(LN++[(u5 B2 ((L.getD i []).getD q zT) j)]),O,bl,fl,ey,h4) ?_ ?_
   · exact⟨mle,aj.up,eg,by omega,by rw[fg] at dx ⊢;exact(zae dx).symm,by rw[je,show u5 B2 ((L.getD i []).getD q zT) j=adN (plB (ptB L i) (L.getD i []) q) ((L.getD i []).getD q zT) from by rw[ej,fg] at *;exact(zae dx).symm];rfl⟩
   omega
  have ek:q=(L.getD i []).length:=by omega
  refine fO (qB (qB (fN (zI (zR (zF (mv I I (mv I I (zQ (A:=[]) (ρ:=rpI) bh ?_)))))))));intro h4 ar bf;refine zH (zJ (ρ:=(rpS rpI)) (m:=1) (xs:=[LN]) (ps':=[(0,_)]) underlying51 jD I I I wK e2z (zD I (y4u (y4i _) [] 0 dC) bf zP) zoj nP) I I I ?_
  rintro yf yz ⟨vb,rfl,lj⟩
  refine zQ (A:=[]) (ρ:=(rpS rpI)) lj ?_;intro h5 cn ka;replace ad:=ad.mono ((jo.trans ar).trans cn);refine xP (A:=[]) (uE (zS (ρ:=(rpS rpI)) (bytes:=24) underlying51 jD I I I I nP I I ad ka bO bO)) I I I ?_
  rintro fk yy ⟨to,gt,rfl,li⟩
  refine asg I I (yA (vZ (e':=[(0,_),(4,_),(5,_),(6,_),(10,_),(11,_),(12,_),(14,_),(15,_),(13,_)]) e10 (zI (zR (zF (asg (v:=vI (0)) I I (yA (zI (uA ?_)))))))));refine gcL (ι:=Nat×List (List Int)×Value×List Value×Mem) (λ(e,E2,bv,dk,me)=>(MLe h5 me/\(RL (rpA 2 rpI) me dk E2/\e<=LN.length/\E2.length=iK L i+e),[(0,vL),(4,vP b4 0),(5,vP b5 0),(6,vP b6 0),(10,vP ab 0),(11,bv),(12,O),(13,fk),(14,vI ↑i),(15,be),(19,vI ↑e)],[.gs 22 1 fk (II++[LN]).length gt,.gs 31 9 O B2.length bl,.gs 118 2 bv E2.length dk,.var ab 39 ec,.var b6 39 dz,.var b5 29 ea,.var b4 29 eb],me,LN.length-e)) (0,ED,ae,av,h5) ?_ ?_
  · exact⟨mle,kn.up,by omega,rr⟩
  rintro⟨e,E2,bv,dk,me⟩ ⟨ri,cy,rm,ui⟩
  refine xD ?_;have iw:=du.2 i oM;refine zR (zR (zF (mv I I (mv I I ?_))));replace bf:=bf.mono (cn.trans ri);refine gv (qO underlying22 I bf) I (gv (yO I I) I (yA (zI ?_)));refine cnd (λmx=>?_) λmx=>?_
  ·
   refine qG (zI (zR (uA ?_)));refine qS (A:=[_,_]) 17 [] (zai 0 14 [(14,.c),(15,.c),(16,.q)]) yF nX (wS zou) nX (qV I I I (qV I I I (qV I I I (wX I (xI (0:Int) e underlying22 ty3 bf) λye qw=>(wX I (xA ty3 qw) λyd qv=>?_)))));obtain⟨rfl,tu,th⟩:=jM qv;refine qV I I I (qV I I I (xY I (λ_ _=>zU (q:=1) I I oM oM) I (qV I I I (w_q I (λh' L' hh hR=>qO underlying22 I (bf.mono hh)) I (xY I (λ_ _=>wI I I oM oM) I (wX I (xI (0:Int) ((e+1)%LN.length) underlying22 ty3 bf (hi:=by exact zcu _ oM)) λyc qu=>(wX I (xA ty3 qu) λyb qt=>?_)))))));obtain⟨rfl,tt,tg⟩:=jM qt;refine wX I (xV (ρ:=(rpA 2 rpI)) (wH (ps':=[(0,_),(1,_)]) underlying118 w7 I I sizeOf3 e4z I (zMO 2 wL) (zD I (y4u (y4i _) (0:Int) 0 dC) (xZ oM oM) (zD I (y4u (y4i _) (0:Int) 1 dC) (xZ oM oM) zP)))) λya qs=>?_;refine w_c I (jH (λX=>zJ (ρ:=(rpA 2 rpI)) (m:=1) (xs:=[[(LN.getD e (0:Int)),(LN.getD ((e+1)%LN.length) (0:Int))]]) (ps':=[(0,_)]) underlying117 w7 I I I (zMO 2 wL) e2z (zD I (y4u (y4i _) (List.replicate 2 (0:Int)) 0 dC) qs zP) (show 1*2<=16777216 from by decide) nP) I ?_)
   rintro xz yx ⟨va,rfl,lh⟩
   refine w_c I (xT (A:=[]) (ρ:=(rpA 2 rpI)) lh dK ?_);intro h6 de jz;replace cy:=cy.mono de;refine fL (A:=[_,_]) (λX=>uE (zS (ρ:=(rpA 2 rpI)) (bytes:=16) underlying117 w7 I I I I nP I I cy jz bO bO)) I (xQ zoy) ?_
   rintro nw yw ⟨tn,nk,rfl,lg⟩
   refine zMS I I I (cV (rO (vZ (e':=[(0,_),(4,_),(5,_),(6,_),(10,_),(12,_),(13,_),(14,_),(15,_),(19,_),(11,_)]) ⟨I,I,I,I,I,I,I,I,I,I,I,y3e⟩ (zI (zF (mv I I (gv (zU (q:=1) I I oM oM) I (asg I I (yA ?_)))))))));refine gqL ((e+1),(E2++[[(LN.getD e (0:Int)),(LN.getD ((e+1)%LN.length) (0:Int))]]),nw,nk,h6) ?_ ?_
   · exact⟨mle,lg,by omega,by rw[lAz,ui];rfl⟩
   omega
  have uh:E2.length=iK L i+LN.length:=by omega
  refine fO (qB (qB (fN (rO (zI (zF (mv I I (gv (zU (q:=1) I I oM oM) I (asg I I (yA ?_))))))))));refine gqL ((i+1),E2,B2,(II++[LN]),bv,dk,O,bl,fk,gt,me) ?_ ?_
  · exact⟨mle,cy,aj.up,li.up,by omega,by rw[uh,ug,ek];rfl,by rw[fg,ek];rfl,by rw[ci,je,ek];rfl⟩
  omega
 have ei:i=L.length:=by omega
 have tw:=mm L.length oM;rw[ei] at rr bk ci;have hI1:II.length=L.length:=by rw[ci];exact yY _ _
 have mz:∀i,i<L.length->(II.getD i []).length=(L.getD i []).length:=λi hi=>by rw[ci];exact zMK hi
 have gc:∀i q,i<L.length->q<(II.getD i []).length->0<=(II.getD i []).getD q 0/\(II.getD i []).getD q 0<↑M.length:=λi q hi hq=>by rw[ci] at hq ⊢;rw[bk];exact zPH hi hq
 refine fO (qB (qB (fN (zI (zR (zF (mv I I (gv (kF mh1 underlying35 I) I (asg I I (yA (zI (zR (zR ?_)))))))))))));refine zF (mv I I (gv (gX (p:=2) I I oM oM) I (gv (mV (q:=512) I I) I ?_)));refine gU 6 158 (vB (((512:Int)<((2:Int)*(↑M.length:Int)))\/((256:Int)<((↑ED.length:Int)+(2:Int))))) ?_ ?_
 ·
  refine zY ((512:Int)<((2:Int)*(↑M.length:Int))) (λhg=>?_) (λhg=>?_)
  ·
   refine gT hg I (mG I I I I I I (mG I I I I I I (mG I I I I I I (mG I I I I I I (gv (bA I I) I (yA (gqU ?_)))))));exact y3u (vV hg)
  refine gF hg I (t8 I I I (mv I I (t8 I I I (gv (kF mh2 underlying117 I) I (t8 I I I (gv (zU (q:=2) I I oM oM) I (t8 I I I (gv (mV (q:=256) I I) I (gv (bC I I) I (yA (gqU ?_)))))))))));exact y3u (vW hg)
 refine yA (zI ?_);refine cnd (λmw=>?_) λmw=>?_
 ·
  have mg:prB L:=by unfold prB;show 512<2*(ptB L L.length).length\/_;rw[<-bk];omega
  refine zR (zF (lX (xV (ρ:=(rpP (tLs 1) (rpP rpV (rpS (rpP rpI (rpP rpI (rpQ 1))))))) (wE (ps':=[]) underlying39 qX I I (rK underlying39) trivial I (yE wK (yE fC wK)) zP)) λxy qr=>?_));replace bj:=bj.mono (((dw.trans el).trans dv).trans cg);refine yD (A:=[_,_,_,_]) (uB sizeOf39 pH bj qr) λuo lv=>(asg (v:=vI (2)) I I (yA (zI (lP (nW ?_)))));obtain⟨e1,e2,e3⟩:=pr_2 gh (zdi dy) fd mg;rw[e1,e2,e3];refine aX 53 14 ?_;have kl:=RL.nil (ρ:=rpP (tPl (1000*k+1000*l1+1000*l2+2000) (1000*k+1000*l1+1000*l2+2000)) (rpP tII qF)) (h:=ma);refine vM (gG (t:=6) jV mh5 I lv) ?_;intro vd ix ke;refine kV (.cons_cons _ (zsu _)) (λE S=>jW I ix (tH I) E S) ?_;exact⟨_,_,_,I,(Rp.Is.le ke (Le.p (Le.s (Le.t (Le.q (l:=k+l1+l2+20) oM))) (Le.p (Le.refl _) (Le.s (Le.p (Le.refl _) (Le.p (Le.refl _) (Le.q (l:=5) dC))))))),I,I,kl⟩
 have mg:¬prB L:=by unfold prB;show ¬(512<2*(ptB L L.length).length\/_);rw[<-bk];omega
 obtain⟨rn,rm,uc⟩:=yNS gh (zdi dy) fd mg;refine qG (zI (zR (zR (zF (asg (v:=vI (0)) I I (yA (zI (uA (xN 31 9 ?_)))))))));have kk:=RL.nil (ρ:=rpT (rpQ (k+l1+l2+5))) (h:=ma);refine gcL (ι:=Nat×List Tq×List Value×Value×List Value×Mem) (λ(i,PP,cm,cc,es,mp)=>(MLe ma mp/\((rpP rpV (rpP rpV (rpS (rpP rpI (rpP rpI (rpQ 1)))))).R mp cm (cc,(Value.slice none 0 0,[]))/\RL (tPt (k+l1+l2+5)) mp es PP/\cc.oneCell'=true/\i<=2*M.length/\PP=zVC L lo hi i),[(4,vP b4 0),(5,vP b5 0),(6,vP b6 0),(10,vP ab 0),(12,D),(13,C),(20,vI (↑M.length:Int)),(21,vI ↑i)],[.gs 31 9 cc PP.length es,.gs 22 1 C II.length ax,.gs 31 9 D M.length bd,.gs 118 2 ae ED.length av,.var ab 39 cm,.var b6 39 dz,.var b5 29 ea,.var b4 29 eb],mp,2*M.length-i)) (0,[],ec,(.slice none 0 0),[],ma) ?_ ?_
 · exact⟨mle,on.up,kk,I,by omega,I⟩
 rintro⟨i,PP,cm,cc,es,mp⟩ ⟨bt,ap,bg,tl,hi2,jd⟩
 refine xD ?_;have hPl:PP.length=i:=by rw[jd];exact yY _ _
 refine zR (zR (zF (mv I I (mv I I (gv (gX (p:=2) I I oM oM) I (gv (yO I I) I (yA (zI ?_))))))));refine cnd (λmu=>?_) λmu=>?_
 ·
  refine qG (zI (zR (uA (zR (zF ?_)))));replace dd:=dd.mono ((dv.trans cg).trans bt);refine lX (xB yI pH dd) λxx qq=>(nA (ρ:=(rpQ 1)) (X:=(0:Rat)) wD (yM dC) λb22 zk om=>?_);have jv:=(Le.q (l:=l1+1) oM).R om;refine yD (A:=[]) (uB sizeOf29 pH jv (qq.le (Le.q (l:=l1+1) oM))) λun fm=>(yA (zI (zR (zR (zF (mv I I (mv I I (gv (rN I I) I (yA (zI ?_))))))))));refine cnd (λen=>?_) λen=>?_
  ·
   refine zF ?_;replace dc:=dc.mono ((dv.trans cg).trans bt);refine lX (xB yI pH dc) λxw qp=>?_;have ju:=(Le.q (l:=l1+l2+1) oM).R fm;refine yD (A:=[]) (uB sizeOf29 pH ju (qp.le (Le.q (l:=l1+l2+1) oM))) λum lu=>(yA (zI ?_));refine qS (A:=[_]) 21 [] (zai 0 18 [(18,.c),(19,.c),(20,.q),(21,.t)]) yF nX (wS zou) nX (xY I (λ_ _=>(wB underlying39 I sizeOf35 I).cv (show _=vP ab 0 from zbi (vP ab) zo3)) I (wX I (sE (xB qD (y4e pH) ap)) λnv fz=>?_));subst fz;refine qV I I I (qV I I I (qV I I I (xY I (λ_ _=>wI I I oM oM) I (w_q I (λh' L' hh hR=>(yK (i%M.length) (hR _ mh2) underlying35 sizeOf31 I I rP (by exact zcu _ oM) nP).cv (show _=zG 1 D (((i%M.length)*9+0)) from zbi (zG 1 D) zo3)) I ?_))));replace ak:=ak.mono bt;refine w_q I (λh' L' hh hR=>(sZ (sz:=3) (q:=0) 0 (y4u (y4i _) zT (i%M.length) (by exact zcu _ oM)) I nP (ak.mono hh) (hR _ mh2) underlying31 sizeOf29 I I I dC).cv (show _=zG 1 D (((i%M.length)*9+0)) from zbi (zG 1 D) (by show((i%M.length)*9+0)+0*3=((i%M.length)*9+0);omega))) I (aI (F:=λv_=>(rpQ (k+1)).Is mp v_ ((M.getD (i%M.length) zT).x)) I (xE yI (y4u (y5u (y4i _)) zT (i%M.length) (by exact zcu _ oM)) I nP I ak I) (gC mh2) I ?_);intro nu fy;refine qV I I I (qV I I I (qV I I I (xY I (λ_ _=>wI I I oM oM) I (w_q I (λh' L' hh hR=>(yK (i%M.length) (hR _ mh2) underlying35 sizeOf31 I I rP (by exact zcu _ oM) nP).cv (show _=zG 1 D (((i%M.length)*9+0)) from zbi (zG 1 D) zo3)) I (w_q I (λh' L' hh hR=>(sZ (sz:=3) (q:=1) 1 (y4u (y4i _) zT (i%M.length) (by exact zcu _ oM)) I nP (ak.mono hh) (hR _ mh2) underlying31 sizeOf29 I I I dC).cv (show _=zG 1 D (((i%M.length)*9+3)) from zbi (zG 1 D) (by show((i%M.length)*9+0)+1*3=((i%M.length)*9+3);omega))) I (aI (F:=λv_=>(rpQ (k+1)).Is mp v_ ((M.getD (i%M.length) zT).y)) I (xE yI (y4u (y5e (y4i _)) zT (i%M.length) (by exact zcu _ oM)) I nP I ak I) (gC mh2) I ?_))))));intro nt fx;refine wX I (xB yI pH lu) λns fw=>(wX I (xV (ρ:=(tPt (k+l1+l2+1))) (wH (ps':=[(0,_),(1,_),(2,_)]) underlying31 yS I I sizeOf29 e6z I (xW (yM oM)) (zD I (y5u (y4i _)) (fy.le (Le.q (l:=k+l1+l2+1) oM)) (zD I (y5e (y4i _)) (fx.le (Le.q (l:=k+l1+l2+1) oM)) (zD I (y6i (y4i _)) (fw.le (Le.q (l:=k+l1+l2+1) oM)) zP))))) λnr fv=>?_);refine w_c I (jH (λX=>zJ (ρ:=(tPt (k+l1+l2+1))) (m:=1) (xs:=[(T3.mk ((M.getD (i%M.length) zT).x) ((M.getD (i%M.length) zT).y) hi)]) (ps':=[(0,_)]) underlying35 yS I I I (xW (yM oM)) e2z (zD I (y4u (y4i _) zT 0 dC) fv zP) zok nP) I ?_)
   rintro nq re ⟨nj,rfl,ee⟩
   refine w_c I (xT (A:=[]) (ρ:=(tPt (k+l1+l2+1))) ee dK ?_);intro h4 ar jy;replace bg:=bg.mono ar;refine fL (A:=[_]) (λX=>uE (zS (ρ:=(tPt (k+l1+l2+5))) (bytes:=168) underlying35 yS I I I I nP I I bg (jy.le (Le.s (Le.t (Le.q (l:=k+l1+l2+5) oM)))) bO bO)) I (xQ zoy) ?_
   rintro fj rd ⟨cf,ew,rfl,ed⟩
   refine xY I (λ_ _=>(wB underlying39 I sizeOf35 I).cv (show _=vP ab 0 from zbi (vP ab) zo3)) I ?_;replace ap:=ap.mono ar;refine yJ (A:=[_,_,_,_,_]) I (uB sizeOf35 (y4e pH) ap (eM cf)) λng lt=>(cV (rO (vZ (e':=[(4,_),(5,_),(6,_),(10,_),(12,_),(13,_),(20,_),(21,_)]) e8 (zI (zF (mv I I (gv (zU (q:=1) I I oM oM) I (asg I I (yA (yW (A:=[]) ?_))))))))));refine gqL ((i+1),(PP++[(T3.mk ((M.getD (i%M.length) zT).x) ((M.getD (i%M.length) zT).y) hi)]),ng,fj,ew,h4) ?_ ?_
   · exact⟨mle,lt,ed,cf,by omega,by rw[jd,bk];exact zbi (λz=>zVC L lo hi i++[T3.mk _ _ z]) (zau (by have h9:=en;rw[bk] at h9;exact h9)).symm⟩
   omega
  refine qG (zI ?_);refine qS (A:=[_]) 21 [] (zai 0 18 [(18,.c),(19,.c),(20,.q),(21,.t)]) yF nX (wS zou) nX (xY I (λ_ _=>(wB underlying39 I sizeOf35 I).cv (show _=vP ab 0 from zbi (vP ab) zo3)) I (wX I (sE (xB qD (y4e pH) ap)) λnv fz=>?_));subst fz;refine qV I I I (qV I I I (qV I I I (xY I (λ_ _=>wI I I oM oM) I (w_q I (λh' L' hh hR=>(yK (i%M.length) (hR _ mh2) underlying35 sizeOf31 I I rP (by exact zcu _ oM) nP).cv (show _=zG 1 D (((i%M.length)*9+0)) from zbi (zG 1 D) zo3)) I ?_))));replace ak:=ak.mono bt;refine w_q I (λh' L' hh hR=>(sZ (sz:=3) (q:=0) 0 (y4u (y4i _) zT (i%M.length) (by exact zcu _ oM)) I nP (ak.mono hh) (hR _ mh2) underlying31 sizeOf29 I I I dC).cv (show _=zG 1 D (((i%M.length)*9+0)) from zbi (zG 1 D) (by show((i%M.length)*9+0)+0*3=((i%M.length)*9+0);omega))) I (aI (F:=λv_=>(rpQ (k+1)).Is mp v_ ((M.getD (i%M.length) zT).x)) I (xE yI (y4u (y5u (y4i _)) zT (i%M.length) (by exact zcu _ oM)) I nP I ak I) (gC mh2) I ?_);intro nu fy;refine qV I I I (qV I I I (qV I I I (xY I (λ_ _=>wI I I oM oM) I (w_q I (λh' L' hh hR=>(yK (i%M.length) (hR _ mh2) underlying35 sizeOf31 I I rP (by exact zcu _ oM) nP).cv (show _=zG 1 D (((i%M.length)*9+0)) from zbi (zG 1 D) zo3)) I (w_q I (λh' L' hh hR=>(sZ (sz:=3) (q:=1) 1 (y4u (y4i _) zT (i%M.length) (by exact zcu _ oM)) I nP (ak.mono hh) (hR _ mh2) underlying31 sizeOf29 I I I dC).cv (show _=zG 1 D (((i%M.length)*9+3)) from zbi (zG 1 D) (by show((i%M.length)*9+0)+1*3=((i%M.length)*9+3);omega))) I (aI (F:=λv_=>(rpQ (k+1)).Is mp v_ ((M.getD (i%M.length) zT).y)) I (xE yI (y4u (y5e (y4i _)) zT (i%M.length) (by exact zcu _ oM)) I nP I ak I) (gC mh2) I ?_))))));intro nt fx;refine wX I (xB yI pH fm) λns fw=>(wX I (xV (ρ:=(tPt (k+l1+1))) (wH (ps':=[(0,_),(1,_),(2,_)]) underlying31 yS I I sizeOf29 e6z I (xW (yM oM)) (zD I (y5u (y4i _)) (fy.le (Le.q (l:=k+l1+1) oM)) (zD I (y5e (y4i _)) (fx.le (Le.q (l:=k+l1+1) oM)) (zD I (y6i (y4i _)) (fw.le (Le.q (l:=k+l1+1) oM)) zP))))) λnr fv=>?_);refine w_c I (jH (λX=>zJ (ρ:=(tPt (k+l1+1))) (m:=1) (xs:=[(T3.mk ((M.getD (i%M.length) zT).x) ((M.getD (i%M.length) zT).y) lo)]) (ps':=[(0,_)]) underlying35 yS I I I (xW (yM oM)) e2z (zD I (y4u (y4i _) zT 0 dC) fv zP) zok nP) I ?_)
  rintro nq re ⟨nj,rfl,ee⟩
  refine w_c I (xT (A:=[]) (ρ:=(tPt (k+l1+1))) ee dK ?_);intro h4 ar jx;replace bg:=bg.mono ar;refine fL (A:=[_]) (λX=>uE (zS (ρ:=(tPt (k+l1+l2+5))) (bytes:=168) underlying35 yS I I I I nP I I bg (jx.le (Le.s (Le.t (Le.q (l:=k+l1+l2+5) oM)))) bO bO)) I (xQ zoy) ?_
  rintro fj rd ⟨cf,ew,rfl,ed⟩
  refine xY I (λ_ _=>(wB underlying39 I sizeOf35 I).cv (show _=vP ab 0 from zbi (vP ab) zo3)) I ?_;replace ap:=ap.mono ar;refine yJ (A:=[_,_,_,_,_]) I (uB sizeOf35 (y4e pH) ap (eM cf)) λnf ls=>(cV (rO (vZ (e':=[(4,_),(5,_),(6,_),(10,_),(12,_),(13,_),(20,_),(21,_)]) e8 (zI (zF (mv I I (gv (zU (q:=1) I I oM oM) I (asg I I (yA (yW (A:=[]) ?_))))))))));refine gqL ((i+1),(PP++[(T3.mk ((M.getD (i%M.length) zT).x) ((M.getD (i%M.length) zT).y) lo)]),nf,fj,ew,h4) ?_ ?_
  · exact⟨mle,ls,ed,cf,by omega,by rw[jd,bk];exact zbi (λz=>zVC L lo hi i++[T3.mk _ _ z]) (zae (by have h9:=en;rw[bk] at h9;exact h9)).symm⟩
  omega
 have gn:PP=ppZ L lo hi:=by rw[jd,show i=2*M.length by omega,bk];rfl
 have ze:PP.length=2*M.length:=by rw[gn,bk];exact zQF
 refine fO (qB (qB (fN (zI (zR (zF (zQ (A:=[]) (ρ:=(tPt (k+l1+l2+5))) bg ?_)))))));intro h4 ar jw;replace ap:=ap.mono ar;have lr:(rpP (tLs (k+l1+l2+5)) (rpP rpV (rpS (rpP rpI (rpP rpI (rpQ 1)))))).R h4 cm (PP,(cc,(Value.slice none 0 0,[])).2):=yDF ap jw;refine cL (vs:=[vI (1)]) ⟨I,y3e⟩ call27 (λw hs=>gJ hs dC dC) λxv h5 cn qo=>(nA (ρ:=(rpQ 2)) (X:=(0:Rat)) wD (yM dC) λnn zj ol=>(yD (A:=[]) (uB sizeOf29 pH ol qo) λer cz=>(yA (zI (zR ?_)))));refine zL 10 _ [(9,(24,53,[.bool false,.slice none 0 0,.slice none 0 0,.bool false,.slice none 0 0,.slice none 0 0,.bool false,.slice none 0 0,.slice none 0 0,.bool false,.slice none 0 0,.slice none 0 0,.slice none 0 0,.string ⟨#[]⟩]))] [(0,.q),(1,.q),(2,.q),(5,.q),(3,.c),(4,.q),(6,.c),(7,.q),(8,.q),(9,.a),(10,.t)] yF (kL.cons I I (qQ jJ I I) kL.nil) zou (qR I I gY) (λr hr=>hr) (wX I (xV (ρ:=(rpQ 1)) (wE (ps':=[]) underlying29 wD I I (qH underlying29) trivial I (yM dC) zP)) λxu fu=>(wX I (xV (ρ:=(rpQ 1)) (wE (ps':=[]) underlying29 wD I I (qH underlying29) trivial I (yM dC) zP)) λxt ft=>(wX I (xB yI pH cz) λxr qn=>?_)));replace dd:=dd.mono ((((dv.trans cg).trans bt).trans ar).trans cn);refine wX I (xB yI pH dd) λxo fr=>?_;refine w_c I (sC (ev1 I) call87 (λw hs=>oY hs qn dC) λxq h6 de qm=>?_);replace fu:=fu.mono de;replace ft:=ft.mono de;refine wX I (xV (ρ:=(tPt 2)) (wH (ps':=[(0,_),(1,_),(2,_)]) underlying31 yS I I sizeOf29 e6z I (xW (yM dC)) (zD I (y5u (y4i _)) (fu.le (Le.q (l:=2) dC)) (zD I (y5e (y4i _)) (ft.le (Le.q (l:=2) dC)) (zD I (y6i (y4i _)) qm zP))))) λxp fs=>?_;refine w_c I ?_;replace fr:=fr.mono de;refine sC (ev1 I) call87 (λw hs=>oY hs fr oM) λxn h7 gj ql=>?_;replace fs:=fs.mono gj;refine wX I (xV (ρ:=(tPl 2 (l1+1))) (wE (ps':=[(0,_),(1,_)]) underlying50 rG I I (rJ underlying50) e4z I (yE (xW (yM dC)) (yM oM)) (zD I (y4e (y4i _)) fs (zD I (y5i (y4i _)) (ql.le (Le.q (l:=l1+1) oM)) zP)))) λxm qk=>(wX I (xV (ρ:=(rpP (tPl 2 (l1+1)) (rpP rpV qF))) (wE (ps':=[(0,_),(2,_)]) underlying53 jJ I I (bV underlying53) e4z I (yE (yE (xW (yM dC)) (yM oM)) (yE fC gP)) (zD I (y4e (y4i _)) qk (zD I (y5i (y5i (y4i _))) (bG (show ByB [98,111,116,116,111,109] by unfold ByB;decide)) zP)))) λxl qj=>?_);refine w_a I I (λcp=>?_);have ok:(rpP (tPl 1 1) (rpP rpV qF)).R h7 [.bool false,.slice none 0 0,.slice none 0 0,.bool false,.slice none 0 0,.slice none 0 0,.bool false,.slice none 0 0,.slice none 0 0,.bool false,.slice none 0 0,.slice none 0 0,.slice none 0 0,.string ⟨#[]⟩] ((zT,(0:Rat)),((Value.slice none 0 0),([]:List Nat))):=(yE (yE (xW (yM dC)) (yM dC)) (yE fC gP));have jt:=(Le.p (Le.p (Le.t (Le.q (l:=2) dC)) (Le.q (l:=l1+1) oM)) (Le.refl _)).R ok;refine yJ (A:=[]) I (uB sizeOf53 pH jt qj) λne ln=>(cV (vZ (e':=[(5,_),(6,_),(10,_),(13,_),(20,_),(23,_),(24,_)]) e7 (zI (zR (zF (lX (xV (ρ:=(rpQ 1)) (wE (ps':=[]) underlying29 wD I I (qH underlying29) trivial I (yM dC) zP)) λxk qi=>(lX (xV (ρ:=(rpQ 1)) (wE (ps':=[]) underlying29 wD I I (qH underlying29) trivial I (yM dC) zP)) λxj qh=>?_)))))));replace cz:=cz.mono (de.trans gj);refine lX (xB yI pH cz) λxi qg=>(lX (xV (ρ:=(tPt 2)) (wH (ps':=[(0,_),(1,_),(2,_)]) underlying31 yS I I sizeOf29 e6z I (xW (yM dC)) (zD I (y5u (y4i _)) (qi.le (Le.q (l:=2) dC)) (zD I (y5e (y4i _)) (qh.le (Le.q (l:=2) dC)) (zD I (y6i (y4i _)) qg zP))))) λxh qf=>?_);replace dc:=dc.mono ((((((dv.trans cg).trans bt).trans ar).trans cn).trans de).trans gj);refine lX (xB yI pH dc) λxg qe=>(lX (xV (ρ:=(tPl 2 (l2+1))) (wE (ps':=[(0,_),(1,_)]) underlying50 rG I I (rJ underlying50) e4z I (yE (xW (yM dC)) (yM oM)) (zD I (y4e (y4i _)) qf (zD I (y5i (y4i _)) (qe.le (Le.q (l:=l2+1) oM)) zP)))) λxf qd=>(lX (xV (ρ:=(rpP (tPl 2 (l2+1)) (rpP rpV qF))) (wE (ps':=[(0,_),(2,_)]) underlying53 jJ I I (bV underlying53) e4z I (yE (yE (xW (yM dC)) (yM oM)) (yE fC gP)) (zD I (y4e (y4i _)) qd (zD I (y5i (y5i (y4i _))) (bG (show ByB [116,111,112] by unfold ByB;decide)) zP)))) λxe qc=>(nA (ρ:=(rpP (tPl 1 1) (rpP rpV qF))) (X:=((zT,(0:Rat)),((Value.slice none 0 0),([]:List Nat)))) jJ (yE (yE (xW (yM dC)) (yM dC)) (yE fC gP)) λco zi oj=>?_)))
 have js:=(Le.p (Le.p (Le.t (Le.q (l:=2) dC)) (Le.q (l:=l2+1) oM)) (Le.refl _)).R oj;refine yD (A:=[]) (uB sizeOf53 pH js qc) λnd lm=>(yA (zI (zR (zR (zF (asg (v:=vI (0)) I I (yA (zI (uA (xN 53 14 ?_))))))))));have kj:=RL.nil (ρ:=rpP (tPl (4*k+4*l1+4*l2+40) (100*k+100*l1+100*l2+1000)) (rpP tII qF)) (h:=h7);refine xN 22 1 ?_;have ki:=RL.nil (ρ:=rpS rpI) (h:=h7);refine xN 22 1 ?_;have kh:=RL.nil (ρ:=rpS rpI) (h:=h7);refine gcL (ι:=Nat×List Fc×List (List Int)×List (List Int)×List Value×List Value×List Value×Value×List Value×Value×List Value×Value×List Value×Mem) (λ(i,F0,C0,T0,cl,dj,ck,ba,cj,aq,eq,ao,di,mq)=>(MLe h7 mq/\((rpP (tLs (k+l1+l2+5)) (rpP rpV (rpS (rpP rpI (rpP rpI (rpQ 1)))))).R mq cl (PP,(ba,([]:List En)))/\(rpP (tPl 5 (l1+l2+5)) (rpP rpV qF)).R mq dj ((T3.mk (0:Rat) (0:Rat) (-((1:Int):Rat)),-lo),(aq,[98,111,116,116,111,109]))/\(rpP (tPl 5 (l1+l2+5)) (rpP rpV qF)).R mq ck ((T3.mk (0:Rat) (0:Rat) ((1:Int):Rat),hi),(ao,[116,111,112]))/\RL (tFc (4*k+4*l1+4*l2+40) (100*k+100*l1+100*l2+1000)) mq cj F0/\ba.oneCell'=true/\RL (rpS rpI) mq eq C0/\aq.oneCell'=true/\RL (rpS rpI) mq di T0/\ao.oneCell'=true/\i<=II.length/\C0=yCN L i/\T0=zXK L i/\F0=zM7 L lo hi i),[(6,vP b6 0),(10,vP ab 0),(13,C),(20,vI (↑M.length:Int)),(24,vP cp 0),(25,vP co 0),(26,vI ↑i)],[.gs 22 1 ao T0.length di,.gs 22 1 aq C0.length eq,.gs 53 14 ba F0.length cj,.var co 53 ck,.var cp 53 dj,.var nn 29 er,.gs 22 1 C II.length ax,.gs 31 9 D M.length bd,.gs 118 2 ae ED.length av,.var ab 39 cl,.var b6 39 dz,.var b5 29 ea,.var b4 29 eb],mq,II.length-i)) (0,[],[],[],cm,ne,nd,(.slice none 0 0),[],(.slice none 0 0),[],(.slice none 0 0),[],h7) ?_ ?_
 · exact⟨mle,lr.up,((Le.p (Le.p (Le.t (Le.q (l:=5) dC)) (Le.q (l:=l1+l2+5) oM)) (Le.refl _)).R ln),((Le.p (Le.p (Le.t (Le.q (l:=5) dC)) (Le.q (l:=l1+l2+5) oM)) (Le.refl _)).R lm),kj,I,ki,I,kh,I,by omega,I,I,I⟩
 rintro⟨i,F0,C0,T0,cl,dj,ck,ba,cj,aq,eq,ao,di,mq⟩ ⟨jn,ce,bi,aw,cw,mh,cu,tk,br,rt,hi3,jg,jc,jf⟩
 refine xD ?_;have hCl:C0.length=i:=by rw[jg];exact yY _ _
 have hTl:T0.length=i:=by rw[jc];exact yY _ _
 have hFl:F0.length=iK L i:=by rw[jf];exact zX7 oM
 have rk:=mm i oM;refine zR (zR (zF (mv I I (mv I I (gv (kF mh6 underlying51 I) I (gv (yO I I) I (yA (zI ?_))))))));refine cnd (λms=>?_) λms=>?_
 ·
  have jp:=mz i oM;have iw:=du.2 i oM;refine qG (zI (zR (uA (zR ?_))));refine qS (A:=[_]) 10 [] (zai 0 6 [(6,.c),(7,.c),(8,.c),(9,.q),(10,.t)]) yF nX zou nX (xY I (λ_ _=>(wB underlying53 I sizeOf51 I).cv (show _=vP cp 12 from zbi (vP cp) zo3)) I (wX I (sE (xB cD (y5i (y4e pH)) bi)) λxd qb=>?_));subst qb;refine qV I I I (qV I I I (w_q I (λh' L' hh hR=>(yK i (hR _ mh5) underlying51 sizeOf22 I I I bO nP).cv (show _=zG 1 C ((i*1+0)) from zbi (zG 1 C) zo3)) I ?_));replace ad:=ad.mono (((((bt.trans ar).trans cn).trans de).trans gj).trans jn);refine aI (F:=λv_=>(rpS rpI).Is mq v_ (II.getD i [])) I (xE fQ (y4u (y4i _) [] i bO) I nP I ad I) (gC mh5) I ?_;intro xc qa;refine w_c I (sC (ev1 I) call67 (λw hs=>zED hs qa oM) λxb h8 bu pz=>?_);refine w_c I (jH (λX=>zJ (ρ:=(rpS rpI)) (m:=1) (xs:=[iJ (II.getD i []) (II.getD i []).length]) (ps':=[(0,_)]) underlying51 jD I I I wK e2z (zD I (y4u (y4i _) [] 0 dC) pz zP) zoj nP) I ?_)
  rintro xa yv ⟨uy,rfl,lf⟩
  refine w_c I (xT (A:=[]) (ρ:=(rpS rpI)) lf dK ?_);intro h9 ch ij;replace cu:=cu.mono (bu.trans ch);refine fL (A:=[_]) (λX=>uE (zS (ρ:=(rpS rpI)) (bytes:=24) underlying51 jD I I I I nP I I cu ij bO bO)) I (xQ zoy) ?_
  rintro fi yu ⟨gg,ev,rfl,ld⟩
  refine xY I (λ_ _=>(wB underlying53 I sizeOf51 I).cv (show _=vP cp 12 from zbi (vP cp) zo3)) I ?_;replace bi:=bi.mono (bu.trans ch);refine yJ (A:=[_,_,_,_]) I (uB sizeOf51 (y5i (y4e pH)) bi (eM gg)) λdn iv=>(cV (vZ (e':=[(6,_),(10,_),(13,_),(20,_),(24,_),(25,_),(26,_)]) e7 (zI (zR (zF (asg I I (yA (zI (zR (zR (zF (asg (v:=vI (0)) I I (yA ?_)))))))))))));refine zI (uA (xN 3 1 ?_));have il:=RL.nil (ρ:=rpI) (h:=h9);refine gcL (ι:=Nat×List Int×Value×List Value×Mem) (λ(q,TL,cd,dm,mr)=>(MLe h9 mr/\(RL rpI mr dm TL/\q<=(II.getD i []).length/\TL=tpL L i q),[(6,vP b6 0),(10,vP ab 0),(13,C),(20,vI (↑M.length:Int)),(24,vP cp 0),(25,vP co 0),(26,vI ↑i),(27,cd),(28,vI ↑q)],[.gs 3 1 cd TL.length dm,.gs 22 1 ao T0.length di,.gs 22 1 fi (C0++[iJ (II.getD i []) (II.getD i []).length]).length ev,.gs 53 14 ba F0.length cj,.var co 53 ck,.var cp 53 dn,.var nn 29 er,.gs 22 1 C II.length ax,.gs 31 9 D M.length bd,.gs 118 2 ae ED.length av,.var ab 39 cl,.var b6 39 dz,.var b5 29 ea,.var b4 29 eb],mr,(II.getD i []).length-q)) (0,[],(.slice none 0 0),[],h9) ?_ ?_
  · exact⟨mle,il,by omega,I⟩
  rintro⟨q,TL,cd,dm,mr⟩ ⟨gi,bz,hq2,my⟩
  refine xD ?_;have zd:TL.length=q:=by rw[my];exact yY _ _
  have jp:=mz i oM;have iw:=du.2 i oM;refine zR (zR (zF (mv I I (mv I I (mv I I (gv ((yK i mh7 underlying51 sizeOf22 I I I bO nP).cv (show _=zG 1 C ((i*1+0)) from zbi (zG 1 C) zo3)) I ?_))))));replace ad:=ad.mono ((bu.trans ch).trans gi);refine zIP (F:=λv_=>(rpS rpI).Is mr v_ (II.getD i [])) (xE fQ (y4u (y4i _) [] i bO) I nP I ad I) (gC mh7) I ?_;intro wz py;refine gv (qO underlying22 I py) I (gv (yO I I) I (yA (zI ?_)));refine cnd (λmo=>?_) λmo=>?_
  ·
   have ti:=gc i q oM oM;refine qG (zI (zR (uA (zF (mv I I (mv I I (mv I I (gv ((yK i mh7 underlying51 sizeOf22 I I I bO nP).cv (show _=zG 1 C ((i*1+0)) from zbi (zG 1 C) zo3)) I (zIP (F:=λv_=>(rpS rpI).Is mr v_ (II.getD i [])) (xE fQ (y4u (y4i _) [] i bO) I nP I ad I) (gC mh7) I ?_)))))))));intro wy px;refine mv I I (lX (xI (0:Int) q underlying22 ty3 px) λwx pw=>(lX (xA ty3 pw) λww pv=>?_));obtain⟨rfl,ts,tf⟩:=jM pv;refine mv I I (gv (zU I I (by(have:=gc i q oM oM;omega)) (by(have:=gc i q oM oM;omega))) I (zH (zJ (ρ:=rpI) (m:=1) (xs:=[(((II.getD i []).getD q (0:Int))+(↑M.length:Int))]) (ps':=[(0,_)]) underlying22 jY I I I wL e2z (zD I (y4u (y4i _) (0:Int) 0 dC) (xZ oM oM) zP) zoj nP) I I I ?_))
   rintro wv yt ⟨ux,rfl,lc⟩
   refine zQ (A:=[]) (ρ:=rpI) lc ?_;intro nc bq ii;replace bz:=bz.mono bq;refine xP (A:=[]) (uE (zS (ρ:=rpI) (bytes:=8) underlying22 jY I I I I nP I I bz ii bO bO)) I I I ?_
   rintro np ys ⟨tm,ni,rfl,lb⟩
   refine asg I I (yA (rO (vZ (e':=[(6,_),(10,_),(13,_),(20,_),(24,_),(25,_),(26,_),(28,_),(27,_)]) ⟨I,I,I,I,I,I,I,I,I,y3e⟩ (zI (zF (mv I I (gv (zU (q:=1) I I oM oM) I (asg I I (yA ?_)))))))));refine gqL ((q+1),(TL++[(((II.getD i []).getD q (0:Int))+(↑M.length:Int))]),np,ni,nc) ?_ ?_
   · exact⟨mle,lb,by omega,by rw[my,ci,bk];rfl⟩
   omega
  have ek:q=(II.getD i []).length:=by omega
  refine fO (qB (qB (fN (zI (zR (zF (gv ((wB underlying53 I sizeOf51 I).cv (show _=vP co 12 from zbi (vP co) zo3)) I ?_)))))));replace aw:=aw.mono ((bu.trans ch).trans gi);refine lX (sE (xB cD (y5i (y4e pH)) aw)) λwu pu=>?_;subst pu;refine mv I I (zQ (A:=[]) (ρ:=rpI) bz ?_);intro nc bq ih;refine zH (zJ (ρ:=(rpS rpI)) (m:=1) (xs:=[TL]) (ps':=[(0,_)]) underlying51 jD I I I wK e2z (zD I (y4u (y4i _) [] 0 dC) ih zP) zoj nP) I I I ?_
  rintro wt yr ⟨uw,rfl,la⟩
  refine zQ (A:=[]) (ρ:=(rpS rpI)) la ?_;intro gq ct ig;replace br:=br.mono ((((bu.trans ch).trans gi).trans bq).trans ct);refine xP (A:=[]) (uE (zS (ρ:=(rpS rpI)) (bytes:=24) underlying51 jD I I I I nP I I br ig bO bO)) I I I ?_
  rintro jm yq ⟨gf,gr,rfl,kz⟩
  refine gv ((wB underlying53 I sizeOf51 I).cv (show _=vP co 12 from zbi (vP co) zo3)) I ?_;replace aw:=aw.mono (bq.trans ct);refine yD (A:=[_,_,_]) (uB sizeOf51 (y5i (y4e pH)) aw (eM gf)) λff iu=>(yA (vZ (e':=[(6,_),(10,_),(13,_),(20,_),(24,_),(25,_),(26,_)]) e7 (zI (zR (zF (asg (v:=vI (0)) I I (yA (zI (uA ?_)))))))));refine gcL (ι:=Nat×List Fc×List Value×Value×List Value×Mem) (λ(q,F1,cb,ah,ca,mf)=>(MLe gq mf/\((rpP (tLs (k+l1+l2+5)) (rpP rpV (rpS (rpP rpI (rpP rpI (rpQ 1)))))).R mf cb (PP,(ah,([]:List En)))/\RL (tFc (4*k+4*l1+4*l2+40) (100*k+100*l1+100*l2+1000)) mf ca F1/\ah.oneCell'=true/\q<=(II.getD i []).length/\F1=zM7 L lo hi i++sfX L lo hi i q),[(6,vP b6 0),(10,vP ab 0),(13,C),(20,vI (↑M.length:Int)),(24,vP cp 0),(25,vP co 0),(26,vI ↑i),(29,vI ↑q)],[.gs 22 1 jm (T0++[TL]).length gr,.gs 22 1 fi (C0++[iJ (II.getD i []) (II.getD i []).length]).length ev,.gs 53 14 ah F1.length ca,.var co 53 ff,.var cp 53 dn,.var nn 29 er,.gs 22 1 C II.length ax,.gs 31 9 D M.length bd,.gs 118 2 ae ED.length av,.var ab 39 cb,.var b6 39 dz,.var b5 29 ea,.var b4 29 eb],mf,(II.getD i []).length-q)) (0,F0,cl,ba,cj,gq) ?_ ?_
  · exact⟨mle,ce.up,cw.up,mh,by omega,by rw[jf];exact(zqi _).symm⟩
  rintro⟨q,F1,cb,ah,ca,mf⟩ ⟨rh,an,bx,jb,hq3,na⟩
  refine xD ?_;have zf:F1.length=iK L i+q:=by rw[na,lAz,zX7 oM];exact zbi _ (yY _ _)
  have jp:=mz i oM;have iw:=du.2 i oM;have hti:=zA1 (((i:Int):Int):Rat);have htk:=zA1 (((q:Int):Int):Rat);have hqi:=sR (i:Int) oM oM;have hqk:=sR (q:Int) oM oM;refine zR (zR (zF (mv I I (mv I I (mv I I (gv ((yK i mh6 underlying51 sizeOf22 I I I bO nP).cv (show _=zG 1 C ((i*1+0)) from zbi (zG 1 C) zo3)) I ?_))))));replace ad:=ad.mono ((bq.trans ct).trans rh);refine zIP (F:=λv_=>(rpS rpI).Is mf v_ (II.getD i [])) (xE fQ (y4u (y4i _) [] i bO) I nP I ad I) (gC mh6) I ?_;intro ws pt;refine gv (qO underlying22 I pt) I (gv (yO I I) I (yA (zI ?_)));refine cnd (λmn=>?_) λmn=>?_
  ·
   have ti:=gc i q oM oM;have hrb:=gc i ((q+1)%(II.getD i []).length) oM (zcu _ oM);refine qG (zI (zR (uA (zR ?_))));refine zL 23 _ [] (zai 0 23 []) yF nX (wS zou) nX (λr hr=>hr) (qV I I I (qV I I I (w_q I (λh' L' hh hR=>(yK i (hR _ mh6) underlying51 sizeOf22 I I I bO nP).cv (show _=zG 1 C ((i*1+0)) from zbi (zG 1 C) zo3)) I (aI (F:=λv_=>(rpS rpI).Is mf v_ (II.getD i [])) I (xE fQ (y4u (y4i _) [] i bO) I nP I ad I) (gC mh6) I ?_))));intro wq pq;refine qV I I I (wX I (xI (0:Int) q underlying22 ty3 pq) λwp pp=>(wX I (xA ty3 pp) λwo po=>?_));obtain⟨rfl,tr,te⟩:=jM po;refine qV I I I (qV I I I (w_q I (λh' L' hh hR=>(yK i (hR _ mh6) underlying51 sizeOf22 I I I bO nP).cv (show _=zG 1 C ((i*1+0)) from zbi (zG 1 C) zo3)) I (aI (F:=λv_=>(rpS rpI).Is mf v_ (II.getD i [])) I (xE fQ (y4u (y4i _) [] i bO) I nP I ad I) (gC mh6) I ?_)));intro wm pn;refine qV I I I (xY I (λ_ _=>zU (q:=1) I I oM oM) I (qV I I I (qV I I I (w_q I (λh' L' hh hR=>(yK i (hR _ mh6) underlying51 sizeOf22 I I I bO nP).cv (show _=zG 1 C ((i*1+0)) from zbi (zG 1 C) zo3)) I (aI (F:=λv_=>(rpS rpI).Is mf v_ (II.getD i [])) I (xE fQ (y4u (y4i _) [] i bO) I nP I ad I) (gC mh6) I ?_)))));intro wl pm;refine w_q I (λh' L' hh hR=>qO underlying22 I (pm.mono hh)) I (xY I (λ_ _=>wI I I oM oM) I (wX I (xI (0:Int) ((q+1)%(II.getD i []).length) underlying22 ty3 pn (hi:=by exact zcu _ oM)) λwk pk=>(wX I (xA ty3 pk) λwj pj=>?_)));obtain⟨rfl,tq,td⟩:=jM pj;refine zMS I I I (zMS I I I (cV (vZ (e':=[(6,_),(10,_),(13,_),(20,_),(24,_),(25,_),(26,_),(29,_),(30,_),(31,_)]) e10 (zI (zR ?_)))));refine zL 12 _ [(11,(32,31,y6u))] (zai 0 10 [(10,.c),(11,.a),(12,.t)]) yF (kL.cons I I (qQ yS I I) kL.nil) (wS zou) (qR I I gY) (λr hr=>hr) (xY I (λ_ _=>(wB underlying39 I sizeOf35 I).cv (show _=vP ab 0 from zbi (vP ab) zo3)) I (wX I (xB qD (y4e pH) an) λwi pi=>(qV I I I (wX I (xI zT (((II.getD i []).getD ((q+1)%(II.getD i []).length) 0).toNat) underlying35 zN pi (hi:=by(show _<PP.length;omega))) λwh ph=>(wX I (xA zN ph) λwg pg=>(xY I (λ_ _=>(wB underlying39 I sizeOf35 I).cv (show _=vP ab 0 from zbi (vP ab) zo3)) I (wX I (xB qD (y4e pH) an) λwf pf=>(qV I I I (wX I (xI zT (((II.getD i []).getD q 0).toNat) underlying35 zN pf (hi:=by(show _<PP.length;omega))) λwe pe=>(wX I (xA zN pe) λwd pd=>?_))))))))));refine w_c I (sC (ev2 I I) call22 (λw hs=>zN1 hs pg pd oM) λwc nb fc fq=>?_);replace fq:=Rp.Is.le fq (Le.t (Le.q (l:=4*k+4*l1+4*l2+23) oM));refine w_a I I (λjj=>?_);have oi:(tPt 1).R nb y6u zT:=(xW (yM dC));have gx:=(Le.t (Le.q (l:=4*k+4*l1+4*l2+23) oM)).R oi;refine yJ (A:=[]) I (uB sizeOf31 pH gx fq) λrx fa=>(cV (vZ (e':=[(6,_),(10,_),(13,_),(20,_),(24,_),(25,_),(26,_),(29,_),(30,_),(31,_),(32,_)]) ⟨I,I,I,I,I,I,I,I,I,I,I,y3e⟩ (zI (zR ?_))));refine zL 8 _ [(7,(33,31,y6u))] (zai 0 4 [(5,.q),(4,.c),(6,.q),(7,.a),(8,.t)]) yF (kL.cons I I (qQ yS I I) kL.nil) zou (qR I I gY) (λr hr=>hr) (xY I (λ_ _=>(zX (sz:=3) (q:=1) 1 underlying31 sizeOf29 I I I dC).cv (show _=vP jj 3 from zbi (vP jj) zo3)) I (wX I (xB yI (y5e pH) fa) λwb fp=>(xY I (λ_ _=>(zX (sz:=3) (q:=0) 0 underlying31 sizeOf29 I I I dC).cv (show _=vP jj 0 from zbi (vP jj) zo3)) I (wX I (xB yI (y5u pH) fa) λwa pc=>(wX I (xV (ρ:=(rpQ 1)) (wE (ps':=[]) underlying29 wD I I (qH underlying29) trivial I (yM dC) zP)) λvy fo=>?_)))))
   refine w_c I (sC (ev1 I) call87 (λw hs=>oY hs pc oM) λvz uk fb oz=>?_);replace fp:=fp.mono fb;replace fo:=fo.mono fb;refine wX I (xV (ρ:=(tPt (4*k+4*l1+4*l2+23))) (wH (ps':=[(0,_),(1,_),(2,_)]) underlying31 yS I I sizeOf29 e6z I (xW (yM oM)) (zD I (y5u (y4i _)) fp (zD I (y5e (y4i _)) oz (zD I (y6i (y4i _)) (fo.le (Le.q (l:=4*k+4*l1+4*l2+23) oM)) zP))))) λvx oy=>?_;refine w_a I I (λb33=>?_);have oh:(tPt 1).R uk y6u zT:=(xW (yM dC));have gw:=(Le.t (Le.q (l:=4*k+4*l1+4*l2+23) oM)).R oh;refine yJ (A:=[]) I (uB sizeOf31 pH gw oy) λrv ez=>(cV (zI ?_));refine qS (A:=[_,_,_,_]) 32 [] (zai 0 9 (zai 11 8 [(21,.q),(25,.q),(0,.x [10,23,24,27] [9,10,22,23,24,26,27] [19,20]),(28,.c),(29,.c),(30,.c),(31,.q),(32,.t)])) yF nX zou nX (xY I (λ_ _=>(wB underlying39 I sizeOf36 I).cv (show _=vP ab 1 from zbi (vP ab) zo3)) I ?_);replace an:=an.mono (fc.trans fb);refine wX I (sE (xB gS (y5i (y4e pH)) an)) λvw ox=>?_;subst ox;refine wX I (xB zN pH ez) λvv bo=>(wX I (xB zN pH ez) λvu dt=>(xY I (λ_ _=>(wB underlying39 I sizeOf35 I).cv (show _=vP ab 0 from zbi (vP ab) zo3)) I (wX I (xB qD (y4e pH) an) λvt ow=>(qV I I I (wX I (xI zT (((II.getD i []).getD q 0).toNat) underlying35 zN ow (hi:=by(show _<PP.length;omega))) λvq ou=>(wX I (xA zN ou) λvp dr=>(qV I I I (qV I I I (qV I I I (qV I I I (xY I (λ_ _=>zU I I oM oM) I (qV I I I (qV I I I ?_)))))))))))));refine xY I (λ_ _=>zU I I oM oM) I (qV I I I (qV I I I (yHY (N:=9) I ?_)));refine zEP I I I I ?x2 ?x3
   case' x2=>
    refine sC (ev2 I I) call56 (λw hs=>lO hs dt dr oM) λjl rs az bc=>?_;replace bc:=Rp.Is.le bc (Le.q (l:=15*k+15*l1+15*l2+93) oM);refine tP I ?_;replace bo:=bo.mono az;refine xX I (xV (ρ:=(tPl (4*k+4*l1+4*l2+23) (15*k+15*l1+15*l2+93))) (wE (ps':=[(0,_),(1,_)]) underlying50 rG I I (rJ underlying50) e4z I (yE (xW (yM oM)) (yM oM)) (zD I (y4e (y4i _)) bo (zD I (y5i (y4i _)) bc zP)))) λjk aa=>?_;refine zEP I I I I ?x4 ?x5
    case' x4=>
     refine sC (ev1 I) call88 (λw hs=>vY hs oM oM) λdp go ac bb=>?_;obtain⟨rfl,bs⟩:=kU bb;refine tP I (aH I (λ_ _=>vN (pa:=([115]:List Nat)) (pb:=(qU (((↑i:Int):Int):Rat))) I I zov) I (tP I (aH I (λ_ _=>vN (pa:=(([115]:List Nat)++(qU (((↑i:Int):Int):Rat)))) (pb:=([46]:List Nat)) I I zov) I ?_)));refine zEP I I I I ?x6 ?x7
     case' x6=>
      refine sC (ev1 I) call88 (λw hs=>vY hs oM oM) λbm dh Z ai=>?_;obtain⟨rfl,au⟩:=kU ai;refine tP I (aH I (λ_ _=>vN (pa:=((([115]:List Nat)++(qU (((↑i:Int):Int):Rat)))++([46]:List Nat))) (pb:=(qU (((↑q:Int):Int):Rat))) I I zov) I (zPQ I I (jH (λX=>zJ (ρ:=rpI) (m:=4) (xs:=(lU (II.getD i []) q M)) (ps':=[(0,_),(1,_),(2,_),(3,_)]) underlying22 jY I I I wL e8 (zD I (y4u (y4i _) (0:Int) 0 dC) (xZ oM oM) (zD I (y4u (y4i _) (0:Int) 1 dC) (xZ oM oM) (zD I (y4u (y4i _) (0:Int) 2 dC) (xZ oM oM) (zD I (y4u (y4i _) (0:Int) 3 dC) (xZ oM oM) zP)))) zon nP) I ?_)));intro fh ga mc;obtain⟨eu,rfl,H⟩:=mc;refine zPQ I I (xT (A:=[]) (ρ:=rpI) H dK ?_);intro df U ie;refine jH (λX=>zJ (ρ:=(rpS rpI)) (m:=1) (xs:=[(lU (II.getD i []) q M)]) (ps':=[(0,_)]) underlying51 jD I I I wK e2z (zD I (y4u (y4i _) [] 0 dC) ie zP) zoj nP) I ?_;intro bn bp am;obtain⟨ay,rfl,J⟩:=am;refine s7 ?_;replace aa:=aa.mono ((ac.trans Z).trans U)
     case' x7=>
      refine jH (λX=>zJ (ρ:=rpI) (m:=4) (xs:=(lU (II.getD i []) q M)) (ps':=[(0,_),(1,_),(2,_),(3,_)]) underlying22 jY I I I wL e8 (zD I (y4u (y4i _) (0:Int) 0 dC) (xZ oM oM) (zD I (y4u (y4i _) (0:Int) 1 dC) (xZ oM oM) (zD I (y4u (y4i _) (0:Int) 2 dC) (xZ oM oM) (zD I (y4u (y4i _) (0:Int) 3 dC) (xZ oM oM) zP)))) zon nP) I ?_
      rintro fh ga ⟨eu,rfl,H⟩
      refine zEP I I I I ?x8 ?x9
      case' x8=>
       refine sC (ev1 I) call88 (λw hs=>vY hs oM oM) λbm dh Z ai=>?_;obtain⟨rfl,au⟩:=kU ai;refine tP I (aH I (λ_ _=>vN (pa:=((([115]:List Nat)++(qU (((↑i:Int):Int):Rat)))++([46]:List Nat))) (pb:=(qU (((↑q:Int):Int):Rat))) I I zov) I (zPQ I I ?_));replace H:=H.mono Z;refine xT (A:=[]) (ρ:=rpI) H dK ?_;intro df U id;refine jH (λX=>zJ (ρ:=(rpS rpI)) (m:=1) (xs:=[(lU (II.getD i []) q M)]) (ps':=[(0,_)]) underlying51 jD I I I wK e2z (zD I (y4u (y4i _) [] 0 dC) id zP) zoj nP) I ?_;intro bn bp am;obtain⟨ay,rfl,J⟩:=am;refine s7 ?_;replace aa:=aa.mono ((ac.trans Z).trans U)
      case' x9=>
       refine xT (A:=[]) (ρ:=rpI) H dK ?_;intro dh Z ic;refine jH (λX=>zJ (ρ:=(rpS rpI)) (m:=1) (xs:=[(lU (II.getD i []) q M)]) (ps':=[(0,_)]) underlying51 jD I I I wK e2z (zD I (y4u (y4i _) [] 0 dC) ic zP) zoj nP) I ?_
       rintro bn bp ⟨ay,rfl,J⟩
       refine zAW I I (sC (ev1 I) call88 (λw hs=>vY hs oM oM) λbm df U ai=>?_);obtain⟨rfl,au⟩:=kU ai;refine tP I (aH I (λ_ _=>vN (pa:=((([115]:List Nat)++(qU (((↑i:Int):Int):Rat)))++([46]:List Nat))) (pb:=(qU (((↑q:Int):Int):Rat))) I I zov) I (s7 ?_));replace aa:=aa.mono ((ac.trans Z).trans U);replace J:=J.mono U
    case' x5=>
     refine jH (λX=>zJ (ρ:=rpI) (m:=4) (xs:=(lU (II.getD i []) q M)) (ps':=[(0,_),(1,_),(2,_),(3,_)]) underlying22 jY I I I wL e8 (zD I (y4u (y4i _) (0:Int) 0 dC) (xZ oM oM) (zD I (y4u (y4i _) (0:Int) 1 dC) (xZ oM oM) (zD I (y4u (y4i _) (0:Int) 2 dC) (xZ oM oM) (zD I (y4u (y4i _) (0:Int) 3 dC) (xZ oM oM) zP)))) zon nP) I ?_
     rintro fh ga ⟨eu,rfl,H⟩
     refine zEP I I I I ?x10 ?x11
     case' x10=>
      refine sC (ev1 I) call88 (λw hs=>vY hs oM oM) λdp go ac bb=>?_;obtain⟨rfl,bs⟩:=kU bb;refine tP I (aH I (λ_ _=>vN (pa:=([115]:List Nat)) (pb:=(qU (((↑i:Int):Int):Rat))) I I zov) I (tP I (aH I (λ_ _=>vN (pa:=(([115]:List Nat)++(qU (((↑i:Int):Int):Rat)))) (pb:=([46]:List Nat)) I I zov) I ?_)));refine zEP I I I I ?x12 ?x13
      case' x12=>
       refine sC (ev1 I) call88 (λw hs=>vY hs oM oM) λbm dh Z ai=>?_;obtain⟨rfl,au⟩:=kU ai;refine tP I (aH I (λ_ _=>vN (pa:=((([115]:List Nat)++(qU (((↑i:Int):Int):Rat)))++([46]:List Nat))) (pb:=(qU (((↑q:Int):Int):Rat))) I I zov) I (zPQ I I ?_));replace H:=H.mono (ac.trans Z);refine xT (A:=[]) (ρ:=rpI) H dK ?_;intro df U ib;refine jH (λX=>zJ (ρ:=(rpS rpI)) (m:=1) (xs:=[(lU (II.getD i []) q M)]) (ps':=[(0,_)]) underlying51 jD I I I wK e2z (zD I (y4u (y4i _) [] 0 dC) ib zP) zoj nP) I ?_;intro bn bp am;obtain⟨ay,rfl,J⟩:=am;refine s7 ?_;replace aa:=aa.mono ((ac.trans Z).trans U)
      case' x13=>
       replace H:=H.mono ac;refine xT (A:=[]) (ρ:=rpI) H dK ?_;intro dh Z ia;refine jH (λX=>zJ (ρ:=(rpS rpI)) (m:=1) (xs:=[(lU (II.getD i []) q M)]) (ps':=[(0,_)]) underlying51 jD I I I wK e2z (zD I (y4u (y4i _) [] 0 dC) ia zP) zoj nP) I ?_;intro bn bp am;obtain⟨ay,rfl,J⟩:=am;refine zAW I I (sC (ev1 I) call88 (λw hs=>vY hs oM oM) λbm df U ai=>?_);obtain⟨rfl,au⟩:=kU ai;refine tP I (aH I (λ_ _=>vN (pa:=((([115]:List Nat)++(qU (((↑i:Int):Int):Rat)))++([46]:List Nat))) (pb:=(qU (((↑q:Int):Int):Rat))) I I zov) I (s7 ?_));replace aa:=aa.mono ((ac.trans Z).trans U);replace J:=J.mono U
     case' x11=>
      refine xT (A:=[]) (ρ:=rpI) H dK ?_;intro go ac hv;refine jH (λX=>zJ (ρ:=(rpS rpI)) (m:=1) (xs:=[(lU (II.getD i []) q M)]) (ps':=[(0,_)]) underlying51 jD I I I wK e2z (zD I (y4u (y4i _) [] 0 dC) hv zP) zoj nP) I ?_
      rintro bn bp ⟨ay,rfl,J⟩
      refine zAW I I (sC (ev1 I) call88 (λw hs=>vY hs oM oM) λdp dh Z bb=>?_);obtain⟨rfl,bs⟩:=kU bb;refine tP I (aH I (λ_ _=>vN (pa:=([115]:List Nat)) (pb:=(qU (((↑i:Int):Int):Rat))) I I zov) I (tP I (aH I (λ_ _=>vN (pa:=(([115]:List Nat)++(qU (((↑i:Int):Int):Rat)))) (pb:=([46]:List Nat)) I I zov) I (zAW I I (sC (ev1 I) call88 (λw hs=>vY hs oM oM) λbm df U ai=>?_)))));obtain⟨rfl,au⟩:=kU ai;refine tP I (aH I (λ_ _=>vN (pa:=((([115]:List Nat)++(qU (((↑i:Int):Int):Rat)))++([46]:List Nat))) (pb:=(qU (((↑q:Int):Int):Rat))) I I zov) I (s7 ?_));replace aa:=aa.mono ((ac.trans Z).trans U);replace J:=J.mono (Z.trans U)
   case' x3=>
    refine jH (λX=>zJ (ρ:=rpI) (m:=4) (xs:=(lU (II.getD i []) q M)) (ps':=[(0,_),(1,_),(2,_),(3,_)]) underlying22 jY I I I wL e8 (zD I (y4u (y4i _) (0:Int) 0 dC) (xZ oM oM) (zD I (y4u (y4i _) (0:Int) 1 dC) (xZ oM oM) (zD I (y4u (y4i _) (0:Int) 2 dC) (xZ oM oM) (zD I (y4u (y4i _) (0:Int) 3 dC) (xZ oM oM) zP)))) zon nP) I ?_
    rintro fh ga ⟨eu,rfl,H⟩
    refine zEP I I I I ?x14 ?x15
    case' x14=>
     refine sC (ev2 I I) call56 (λw hs=>lO hs dt dr oM) λjl rs az bc=>?_;replace bc:=Rp.Is.le bc (Le.q (l:=15*k+15*l1+15*l2+93) oM);refine tP I ?_;replace bo:=bo.mono az;refine xX I (xV (ρ:=(tPl (4*k+4*l1+4*l2+23) (15*k+15*l1+15*l2+93))) (wE (ps':=[(0,_),(1,_)]) underlying50 rG I I (rJ underlying50) e4z I (yE (xW (yM oM)) (yM oM)) (zD I (y4e (y4i _)) bo (zD I (y5i (y4i _)) bc zP)))) λjk aa=>?_;refine zEP I I I I ?x16 ?x17
     case' x16=>
      refine sC (ev1 I) call88 (λw hs=>vY hs oM oM) λdp go ac bb=>?_;obtain⟨rfl,bs⟩:=kU bb;refine tP I (aH I (λ_ _=>vN (pa:=([115]:List Nat)) (pb:=(qU (((↑i:Int):Int):Rat))) I I zov) I (tP I (aH I (λ_ _=>vN (pa:=(([115]:List Nat)++(qU (((↑i:Int):Int):Rat)))) (pb:=([46]:List Nat)) I I zov) I ?_)));refine zEP I I I I ?x18 ?x19
      case' x18=>
       refine sC (ev1 I) call88 (λw hs=>vY hs oM oM) λbm dh Z ai=>?_;obtain⟨rfl,au⟩:=kU ai;refine tP I (aH I (λ_ _=>vN (pa:=((([115]:List Nat)++(qU (((↑i:Int):Int):Rat)))++([46]:List Nat))) (pb:=(qU (((↑q:Int):Int):Rat))) I I zov) I (zPQ I I ?_));replace H:=H.mono ((az.trans ac).trans Z);refine xT (A:=[]) (ρ:=rpI) H dK ?_;intro df U hu;refine jH (λX=>zJ (ρ:=(rpS rpI)) (m:=1) (xs:=[(lU (II.getD i []) q M)]) (ps':=[(0,_)]) underlying51 jD I I I wK e2z (zD I (y4u (y4i _) [] 0 dC) hu zP) zoj nP) I ?_;intro bn bp am;obtain⟨ay,rfl,J⟩:=am;refine s7 ?_;replace aa:=aa.mono ((ac.trans Z).trans U)
      case' x19=>
       replace H:=H.mono (az.trans ac);refine xT (A:=[]) (ρ:=rpI) H dK ?_;intro dh Z hp;refine jH (λX=>zJ (ρ:=(rpS rpI)) (m:=1) (xs:=[(lU (II.getD i []) q M)]) (ps':=[(0,_)]) underlying51 jD I I I wK e2z (zD I (y4u (y4i _) [] 0 dC) hp zP) zoj nP) I ?_;intro bn bp am;obtain⟨ay,rfl,J⟩:=am;refine zAW I I (sC (ev1 I) call88 (λw hs=>vY hs oM oM) λbm df U ai=>?_);obtain⟨rfl,au⟩:=kU ai;refine tP I (aH I (λ_ _=>vN (pa:=((([115]:List Nat)++(qU (((↑i:Int):Int):Rat)))++([46]:List Nat))) (pb:=(qU (((↑q:Int):Int):Rat))) I I zov) I (s7 ?_));replace aa:=aa.mono ((ac.trans Z).trans U);replace J:=J.mono U
     case' x17=>
      replace H:=H.mono az;refine xT (A:=[]) (ρ:=rpI) H dK ?_;intro go ac ho;refine jH (λX=>zJ (ρ:=(rpS rpI)) (m:=1) (xs:=[(lU (II.getD i []) q M)]) (ps':=[(0,_)]) underlying51 jD I I I wK e2z (zD I (y4u (y4i _) [] 0 dC) ho zP) zoj nP) I ?_;intro bn bp am;obtain⟨ay,rfl,J⟩:=am;refine zAW I I (sC (ev1 I) call88 (λw hs=>vY hs oM oM) λdp dh Z bb=>?_);obtain⟨rfl,bs⟩:=kU bb;refine tP I (aH I (λ_ _=>vN (pa:=([115]:List Nat)) (pb:=(qU (((↑i:Int):Int):Rat))) I I zov) I (tP I (aH I (λ_ _=>vN (pa:=(([115]:List Nat)++(qU (((↑i:Int):Int):Rat)))) (pb:=([46]:List Nat)) I I zov) I (zAW I I (sC (ev1 I) call88 (λw hs=>vY hs oM oM) λbm df U ai=>?_)))));obtain⟨rfl,au⟩:=kU ai;refine tP I (aH I (λ_ _=>vN (pa:=((([115]:List Nat)++(qU (((↑i:Int):Int):Rat)))++([46]:List Nat))) (pb:=(qU (((↑q:Int):Int):Rat))) I I zov) I (s7 ?_));replace aa:=aa.mono ((ac.trans Z).trans U);replace J:=J.mono (Z.trans U)
    case' x15=>
     refine xT (A:=[]) (ρ:=rpI) H dK ?_;intro rs az hn;refine jH (λX=>zJ (ρ:=(rpS rpI)) (m:=1) (xs:=[(lU (II.getD i []) q M)]) (ps':=[(0,_)]) underlying51 jD I I I wK e2z (zD I (y4u (y4i _) [] 0 dC) hn zP) zoj nP) I ?_
     rintro bn bp ⟨ay,rfl,J⟩
     refine zAW I I ?_;replace dt:=dt.mono az;replace dr:=dr.mono az;refine sC (ev2 I I) call56 (λw hs=>lO hs dt dr oM) λjl go ac bc=>?_;replace bc:=Rp.Is.le bc (Le.q (l:=15*k+15*l1+15*l2+93) oM);refine tP I ?_;replace bo:=bo.mono (az.trans ac);refine xX I (xV (ρ:=(tPl (4*k+4*l1+4*l2+23) (15*k+15*l1+15*l2+93))) (wE (ps':=[(0,_),(1,_)]) underlying50 rG I I (rJ underlying50) e4z I (yE (xW (yM oM)) (yM oM)) (zD I (y4e (y4i _)) bo (zD I (y5i (y4i _)) bc zP)))) λjk aa=>(zAW I I (sC (ev1 I) call88 (λw hs=>vY hs oM oM) λdp dh Z bb=>?_));obtain⟨rfl,bs⟩:=kU bb;refine tP I (aH I (λ_ _=>vN (pa:=([115]:List Nat)) (pb:=(qU (((↑i:Int):Int):Rat))) I I zov) I (tP I (aH I (λ_ _=>vN (pa:=(([115]:List Nat)++(qU (((↑i:Int):Int):Rat)))) (pb:=([46]:List Nat)) I I zov) I (zAW I I (sC (ev1 I) call88 (λw hs=>vY hs oM oM) λbm df U ai=>?_)))));obtain⟨rfl,au⟩:=kU ai;refine tP I (aH I (λ_ _=>vN (pa:=((([115]:List Nat)++(qU (((↑i:Int):Int):Rat)))++([46]:List Nat))) (pb:=(qU (((↑q:Int):Int):Rat))) I I zov) I (s7 ?_));replace J:=J.mono ((ac.trans Z).trans U);replace aa:=aa.mono (Z.trans U)
   all_goals
    refine w_c I (xT (A:=[]) (ρ:=(rpS rpI)) J dK ?_);intro h18 gk hm;replace aa:=aa.mono gk;refine sX (xV (ρ:=(tFc (4*k+4*l1+4*l2+23) (15*k+15*l1+15*l2+93))) (wE (ps':=[(0,_),(1,_),(2,_)]) underlying53 jJ I I (bV underlying53) e6z I (yE (yE (xW (yM oM)) (yM oM)) (yE wK gP)) (zD I (y4e (y4i _)) aa (zD I (y5i (y4e (y4i _))) hm (zD I (y5i (y5i (y4i _))) (bG ((((show ByB [115] by unfold ByB;decide).app bs).app (show ByB [46] by unfold ByB;decide)).app au)) zP))))) λvo ot=>?_;refine w_c I (jH (λX=>zJ (ρ:=(tFc (4*k+4*l1+4*l2+23) (15*k+15*l1+15*l2+93))) (m:=1) (xs:=[(((nU PP ah (II.getD i []) q),zM (nU PP ah (II.getD i []) q) (pU PP ah ((II.getD i []).getD q 0))),([(lU (II.getD i []) q M)],(((([115]:List Nat)++(qU (((↑i:Int):Int):Rat)))++([46]:List Nat))++(qU (((↑q:Int):Int):Rat)))))]) (ps':=[(0,_)]) underlying36 jJ I I I (yE (yE (xW (yM oM)) (yM oM)) (yE wK gP)) e2z (zD I (y4u (y4i _) zA 0 dC) ot zP) zom nP) I ?_)
    rintro vn yp ⟨uv,rfl,ky⟩
    refine w_c I (xT (A:=[]) (ρ:=(tFc (4*k+4*l1+4*l2+23) (15*k+15*l1+15*l2+93))) ky dK ?_);intro uj jq hj;replace bx:=bx.mono (((((((fc.trans fb).trans az).trans ac).trans Z).trans U).trans gk).trans jq);refine fL (A:=[_,_,_,_]) (λX=>uE (zS (ρ:=(tFc (4*k+4*l1+4*l2+40) (100*k+100*l1+100*l2+1000))) (bytes:=264) underlying36 jJ I I I I nP I I bx (hj.le (Le.s (Le.p (Le.p (Le.t (Le.q (l:=4*k+4*l1+4*l2+40) oM)) (Le.q (l:=100*k+100*l1+100*l2+1000) oM)) (Le.refl _)))) bO bO)) I (xQ zoy) ?_
    rintro no yo ⟨ge,nh,rfl,kx⟩
    refine xY I (λ_ _=>(wB underlying39 I sizeOf36 I).cv (show _=vP ab 1 from zbi (vP ab) zo3)) I ?_;replace an:=an.mono (((((az.trans ac).trans Z).trans U).trans gk).trans jq);refine yJ (A:=[_,_,_,_,_,_,_,_,_,_,_]) I (uB sizeOf36 (y5i (y4e pH)) an (eM ge)) λji ir=>(cV (rO (vZ (e':=[(6,_),(10,_),(13,_),(20,_),(24,_),(25,_),(26,_),(29,_)]) e8 (zI (zF (mv I I (gv (zU (q:=1) I I oM oM) I (asg I I (yA (yW (A:=[]) (yW (A:=[]) ?_)))))))))));refine gqL ((q+1),(F1++[(((nU PP ah (II.getD i []) q),zM (nU PP ah (II.getD i []) q) (pU PP ah ((II.getD i []).getD q 0))),([(lU (II.getD i []) q M)],(((([115]:List Nat)++(qU (((↑i:Int):Int):Rat)))++([46]:List Nat))++(qU (((↑q:Int):Int):Rat)))))]),ji,no,nh,uj) ?_ ?_
    · exact⟨mle,ir,kx,ge,by omega,by rw[na,gn,ci,bk,zju];rfl⟩
    omega
  have ef:q=(II.getD i []).length:=by omega
  refine fO (qB (qB (fN (rO (zI (zF (mv I I (gv (zU (q:=1) I I oM oM) I (asg I I (yA ?_))))))))));refine gqL ((i+1),F1,(C0++[iJ (II.getD i []) (II.getD i []).length]),(T0++[TL]),cb,dn,ff,ah,ca,fi,ev,jm,gr,mf) ?_ ?_
  · exact⟨mle,an,iv.up,iu.up,bx,jb,ld.up,gg,kz.up,gf,by omega,by rw[jg,ci];rfl,by rw[jc,my,ek,ci];rfl,by rw[na,ef,ci];rfl⟩
  omega
 have ul:i=(bxZ L).length:=by rw[yMH];omega
 rw[ul] at jg jc jf;refine fO (qB (qB (fN (zI (zR (zF (gv ((wB underlying39 I sizeOf36 I).cv (show _=vP ab 1 from zbi (vP ab) zo3)) I (lX (sE (xB gS (y5i (y4e pH)) ce)) λvm os=>?_))))))));subst os;refine zQ (A:=[_]) (ρ:=(rpS rpI)) cu ?_;intro h8 bu hb;replace bi:=bi.mono bu;have db:(tFc 5 (l1+l2+5)).R h8 dj (((T3.mk (0:Rat) (0:Rat) (-((1:Int):Rat)),-lo),(aq,[98,111,116,116,111,109])).1,(C0,(((T3.mk (0:Rat) (0:Rat) (-((1:Int):Rat)),-lo),(aq,[98,111,116,116,111,109])).2).2)):=zFJ bi hb;replace br:=br.mono bu;refine zQ (A:=[]) (ρ:=(rpS rpI)) br ?_;intro h9 ch ha;replace aw:=aw.mono (bu.trans ch);have iq:(tFc 5 (l1+l2+5)).R h9 ck (((T3.mk (0:Rat) (0:Rat) ((1:Int):Rat),hi),(ao,[116,111,112])).1,(T0,(((T3.mk (0:Rat) (0:Rat) ((1:Int):Rat),hi),(ao,[116,111,112])).2).2)):=zFJ aw ha;replace db:=db.mono ch;refine lX (xB bQ pH db) λvl or=>(lX (xB bQ pH iq) λvk oq=>(zH (zJ (ρ:=(tFc 5 (l1+l2+5))) (m:=2) (xs:=[(((T3.mk (0:Rat) (0:Rat) (-((1:Int):Rat)),-lo),(aq,[98,111,116,116,111,109])).1,(C0,(((T3.mk (0:Rat) (0:Rat) (-((1:Int):Rat)),-lo),(aq,[98,111,116,116,111,109])).2).2)),(((T3.mk (0:Rat) (0:Rat) ((1:Int):Rat),hi),(ao,[116,111,112])).1,(T0,(((T3.mk (0:Rat) (0:Rat) ((1:Int):Rat),hi),(ao,[116,111,112])).2).2))]) (ps':=[(0,_),(1,_)]) underlying36 jJ I I I (yE (yE (xW (yM dC)) (yM oM)) (yE wK gP)) e4z (zD I (y4u (y4i _) zA 0 dC) or (zD I (y4u (y4i _) zA 1 dC) oq zP)) (show 2*14<=16777216 from by decide) nP) I I I ?_))
 rintro vj yn ⟨ut,rfl,kw⟩
 refine zQ (A:=[]) (ρ:=(tFc 5 (l1+l2+5))) kw ?_;intro nc bq gz;replace cw:=cw.mono ((bu.trans ch).trans bq);refine xP (A:=[]) (uE (zS (ρ:=(tFc (4*k+4*l1+4*l2+40) (100*k+100*l1+100*l2+1000))) (bytes:=264) underlying36 jJ I I I I nP I I cw (gz.le (Le.s (Le.p (Le.p (Le.t (Le.q (l:=4*k+4*l1+4*l2+40) oM)) (Le.q (l:=100*k+100*l1+100*l2+1000) oM)) (Le.refl _)))) bO bO)) I I I ?_
 rintro vi ym ⟨mi,ur,rfl,kv⟩
 refine gv ((wB underlying39 I sizeOf36 I).cv (show _=vP ab 1 from zbi (vP ab) zo3)) I ?_;replace ce:=ce.mono ((bu.trans ch).trans bq);refine yD (A:=[_,_,_,_,_,_,_]) (uB sizeOf36 (y5i (y4e pH)) ce (eM mi)) λfe da=>(yA (vZ (e':=[(6,_),(10,_)]) e2z (zI (zR (zF (zQ (A:=[]) (ρ:=(tFc (4*k+4*l1+4*l2+40) (100*k+100*l1+100*l2+1000))) kv ?_))))));intro gq ct gy;replace da:=da.mono ct;have ip:(tSd (k+l1+l2+5) (4*k+4*l1+4*l2+40) (100*k+100*l1+100*l2+1000) 1).R gq fe ((PP,(ba,([]:List En))).1,((F0++[(((T3.mk (0:Rat) (0:Rat) (-((1:Int):Rat)),-lo),(aq,[98,111,116,116,111,109])).1,(C0,(((T3.mk (0:Rat) (0:Rat) (-((1:Int):Rat)),-lo),(aq,[98,111,116,116,111,109])).2).2)),(((T3.mk (0:Rat) (0:Rat) ((1:Int):Rat),hi),(ao,[116,111,112])).1,(T0,(((T3.mk (0:Rat) (0:Rat) ((1:Int):Rat),hi),(ao,[116,111,112])).2).2))]),((PP,(ba,([]:List En))).2).2)):=zFJ da gy;have io:(tSd (k+l1+l2+5) (4*k+4*l1+4*l2+40) (100*k+100*l1+100*l2+1000) 1).R gq fe (prR L lo hi):=Rp.castR ip (by rw[jf,gn,jg,jc];rfl);refine lX (xB jV pH io) λvh oo=>?_;refine uX (vs:=[_]) I I I I call47 ⟨I,y3e⟩ (λw hs=>zAH hs oo oM oM oM (by first|omega|exact hcd4 rn)) ?_;intro vg nb zl fc dq;obtain⟨sa,jh,dq,rfl,ja,bw⟩:=dq
 change RL (tFc (4*(4*k+4*l1+4*l2+40)+12) ((4*k+4*l1+4*l2+40)+(100*k+100*l1+100*l2+1000)+12)) nb jh (nrF (prR L lo hi)) at bw
 replace dq:=Rp.Is.le dq (Le.p (Le.s (Le.t (Le.q (l:=k+l1+l2+6) oM))) (Le.p (Le.refl _) (Le.s (Le.p (Le.refl _) (Le.p (Le.refl _) (Le.q (l:=2) oM))))));replace bw:=(Le.p (Le.p (Le.t (Le.q (l:=16*k+16*l1+16*l2+172) oM)) (Le.q (l:=104*k+104*l1+104*l2+1052) oM)) (Le.refl _)).rl bw;replace bj:=bj.mono ((((((((((((((dw.trans el).trans dv).trans cg).trans bt).trans ar).trans cn).trans de).trans gj).trans jn).trans bu).trans ch).trans bq).trans ct).trans fc);have gu:=(Le.p (Le.s (Le.t (Le.q (l:=k+l1+l2+6) oM))) (Le.p (Le.refl _) (Le.s (Le.p (Le.refl _) (Le.p (Le.refl _) (Le.q (l:=2) dC)))))).R bj;refine yD (A:=[_,_,_,_,_,_,_,_]) (uB sizeOf39 pH gu dq) λru im=>(asg (v:=vI (0)) I I (yA (zI (lP ?_))));rw[rn,rm,uc];refine vM (gG (t:=6) jV (.tail _ mh7) I im) ?_;intro ry gb ik;refine kV (.cons_cons _ (zsu _)) (λE S=>jW I gb (tH I) E S) ?_;exact⟨_,_,_,I,(Rp.Is.cast (Rp.Is.le ik (Le.p (Le.s (Le.t (Le.q (l:=k+l1+l2+20) oM))) (Le.p (Le.refl _) (Le.s (Le.p (Le.refl _) (Le.p (Le.refl _) (Le.q (l:=5) dC))))))) (by rw[show nrE (prR L lo hi)=[] from by unfold nrE;split<;>rfl])),I,ja,((Le.p (Le.p (Le.t (Le.q (l:=1000*k+1000*l1+1000*l2+2000) oM)) (Le.q (l:=1000*k+1000*l1+1000*l2+2000) oM)) (Le.refl _)).rl bw)⟩
end Go.Proofs.YtpkaegemlpaenaaGreat
namespace Bk
open Classical
def iN{α:Type}(f:α->α)(d:α)(A:List α):Nat->List α
  |0=>A
  |k+1=>(iN f d A k).set k (f ((iN f d A k).getD k d))
theorem dV{α:Type}(f:α->α)(d:α)(A:List α):∀k,(iN f d A k).length=A.length
  |0=>rfl
  |k+1=>by
   show List.length (List.set _ _ _)=_
   rw[lS];exact dV f d A k
theorem zFL{α:Type}(f:α->α)(d:α)(A:List α):∀k i,i<A.length->(iN f d A k).getD i d=if i<k then f (A.getD i d) else A.getD i d
  |0,i,_=>rfl
  |k+1,i,h=>by
   show(List.set _ k _).getD i d=_
   rw[zoa,y0i]
   split
   · rename_i e
     subst e;rw[zau (by rw[dV];exact h),zau zot,zFL f d A k k h,zae zot];rfl
   · rename_i e
     rw[<-zoa,zFL f d A k i h]
     by_cases h1:i<k
     · rw[zau h1,zau zot]
     · rw[zae h1,zae zot]
theorem yDK{α:Type}(f:α->α)(d:α)(A:List α):iN f d A A.length=A.map f:=by
 refine List.ext_getElem (by rw[dV,zde]) λi h1 h2=>?_;rw[dV] at h1;have:=zFL f d A A.length i h1;rw[zau h1,zoa,zoc (by rw[dV];exact h1)] at this;rw[zoa,zoc h1] at this;rw[List.getElem_map];exact this
def rnN(n:List Nat):List Nat:=if n=[98,111,116,116,111,109] then[122,48] else if n=[116,111,112] then[122,49] else if n=[115,48,46,48] then[121,48] else if n=[115,48,46,49] then[120,49] else if n=[115,48,46,50] then[121,49] else if n=[115,48,46,51] then[120,48] else n
def rnF(f:Fc):Fc:=(f.1,(f.2.1,rnN f.2.2))
theorem zPV{F F0:List Fc}{i:Nat}{nm:List Nat}(hF:F=iN rnF zA F0 i)(h:rnN (F.getD i zA).2.2=nm):F.set i ((F.getD i zA).1,((F.getD i zA).2.1,nm))=iN rnF zA F0 (i+1):=by
 subst hF;subst h;rfl
theorem yM4{F F0:List Fc}{i:Nat}(hF:F=iN rnF zA F0 i)(h:rnN (F.getD i zA).2.2=(F.getD i zA).2.2)(hi:i<F.length):F=iN rnF zA F0 (i+1):=by
 rw[<-zPV hF h]
 show F=F.set i (F.getD i zA)
 rw[zoa,zoc hi];exact(List.set_getElem_self hi).symm
section
variable (a b:Pt)
def iL:Prop:=∀u,u<3->¬0<=xU (a.at u) (b.at u)
def blL:List (List Pt):=[[T3.mk a.x a.y (0:Rat),T3.mk b.x a.y (0:Rat),T3.mk b.x b.y (0:Rat),T3.mk a.x b.y (0:Rat)]]
def blG:List Fc:=iN rnF zA (prF (blL a b) a.z b.z) (prF (blL a b) a.z b.z).length
def blS:Sd:=(prP (blL a b) a.z b.z,blG a b,[])
def blP:List Pt:=if iL a b then nrP (blS a b) else[]
def blF:List Fc:=if iL a b then nrF (blS a b) else[]
def blE:Int:=if iL a b then prE (blL a b) a.z b.z else 9
def blH:Prop:=(∀x,x∈blL a b->cY x)/\(prE (blL a b) a.z b.z=0->okS (prR (blL a b) a.z b.z))/\okS (blS a b)
end
theorem yEN{L:List (List Pt)}{lo hi:Rat}(h:prE L lo hi=0->okS (prR L lo hi)):(prF L lo hi).length<=1000:=by
 unfold prF
 split
 · rename_i h0
   unfold nrF
   split
   · rw[zRA];exact(h h0).1.1.2
   · exact zui _
 · exact zui _
theorem bl_9{a b:Pt}(h:¬iL a b):blE a b=9/\blP a b=[]/\blF a b=[]:=⟨zae h,zae h,zae h⟩
theorem yF8{a b:Pt}(h:iL a b):blE a b=prE (blL a b) a.z b.z/\blP a b=nrP (blS a b)/\blF a b=nrF (blS a b):=⟨zau h,zau h,zau h⟩
end Bk
namespace Go.Proofs.YtpkaegemlpaenaaGreat
open Bk Go Tryz
attribute [local irreducible] GL GC GQ W OpV
set_option maxHeartbeats 1000000 in
theorem zJO{w0:World}{h0:Mem}(hs:MLe h0 (mem w0)){k l:Nat}{va:Value}{a:Tq}(ra:(tPt k).Is h0 va a){vb:Value}{b:Tq}(rb:(tPt l).Is h0 vb b)(hcd0:k<=5)(hcd1:l<=5)(hcd2:iL a b->blH a b):
 Calls prog 15 #[va,vb] w0 (tO w0 h0 (λh r L_=>∃u0 vF cs,r=.tuple #[u0,vI (blE a b)]/\(rpP (tLs (2*k+2*l+40)) (rpP rpV (rpS (rpP rpI (rpP rpI (rpQ 6)))))).Is h u0 (blP a b,(vF,[]))/\L_=[.gs 53 14 vF (blF a b).length cs]/\vF.oneCell'=true/\RL (tFc (10000*k+10000*l+20000) (10000*k+10000*l+20000)) h cs (blF a b))):=by
 refine cb2 102 va vb func15 hs ?_;refine go2 ?_;refine nB ra λb2 ck an=>(nB rb λb3 cj am=>(nA (ρ:=(rpP (tLs 1) (rpP rpV (rpS (rpP rpI (rpP rpI (rpQ 1))))))) (X:=([],((Value.slice none 0 0),[]))) qX (yE wK (yE fC wK)) λb4 ci cd=>(uQ ?_)));refine gcL (ι:=Nat×Mem) (λ(i,ma)=>(MLe h0 ma/\(i<=3/\∀u,u<i->¬0<=xU (a.at u) (b.at u)),[(2,vP b2 0),(3,vP b3 0),(4,vP b4 0),(6,vI ↑i)],[.var b4 39 ci,.var b3 31 cj,.var b2 31 ck],ma,3-i)) (0,h0) ?_ ?_
 · exact⟨mle,by omega,λu h=>by omega⟩
 rintro⟨i,ma⟩ ⟨dy,fj,hi2⟩
 refine xD ?_;refine gc7 (λch=>?_) λch=>?_
 ·
  refine go5 ?_;refine zL 8 _ [] (zai 0 6 [(6,.c),(7,.q)]) yF nX zou nX (λr hr=>hr) (go1 ?_);refine xY I (λ_ _=>(zX (sz:=3) i underlying31 sizeOf29 I I I oM).cv (show _=vP b2 ((i*3+0)) from zbi (vP b2) oM)) I (wX I (xB yI (Pc.ta pH i oM) an) λfe dp=>(go1 ?_));refine xY I (λ_ _=>(zX (sz:=3) i underlying31 sizeOf29 I I I oM).cv (show _=vP b3 ((i*3+0)) from zbi (vP b3) oM)) I (wX I (xB yI (Pc.ta pH i oM) am) λfd dn=>?_);refine w_c I (sC (ev2 I I) call17 (λw hs=>tK hs dp dn oM) λcm h1 dr dm=>?_);obtain rfl:cm=vI (xU (a.at i) (b.at i)):=dm;have dt:=jF (a.at i) (b.at i);refine gc3 (λar=>?_) λar=>?_
  ·
   refine go2 ?_;refine lX (xV (ρ:=(rpP (tLs 1) (rpP rpV (rpS (rpP rpI (rpP rpI (rpQ 1))))))) (wE (ps':=[]) underlying39 qX I I (rK underlying39) trivial I (yE wK (yE fC wK)) zP)) λfc dl=>(yD (A:=[]) (uB sizeOf39 pH cd dl) λdz cc=>(go9 ?_));obtain⟨e1,e2,e3⟩:=bl_9 (a:=a) (b:=b) (λe=>e i oM ar);rw[e1,e2,e3];refine aX 53 14 ?_;have bz:=RL.nil (ρ:=rpP (tPl (10000*k+10000*l+20000) (10000*k+10000*l+20000)) (rpP tII qF)) (h:=h1);refine vM (gG (t:=4) jV mh1 I cc) ?_;intro ed bk bx;refine kV (.cons_cons _ (zsu _)) (λE S=>jW I bk (tH I) E S) ?_;exact⟨_,_,_,I,(Rp.Is.le bx (Le.p (Le.s (Le.t (Le.q (l:=2*k+2*l+40) oM))) (Le.p (Le.refl _) (Le.s (Le.p (Le.refl _) (Le.p (Le.refl _) (Le.q (l:=6) dC))))))),I,I,bz⟩
  refine go8 ?_;refine gqL ((i+1),h1) ?_ ?_
  · exact⟨mle,by omega,vX (Q:=λu=>¬0<=xU (a.at u) (b.at u)) hi2 ar⟩
  omega
 have ce:iL a b:=λu hu=>hi2 u oM;have ao:=hcd2 ce;have fo:=yEN ao.2.1;refine go8 ?_;refine lX (xB yI (y5u pH) an) λfb dk=>(go1 ?_);refine lX (xB yI (y5e pH) an) λfa dj=>(lX (xV (ρ:=(tPt (k+1))) (wH (ps':=[(0,_),(1,_)]) underlying31 yS I I sizeOf29 e4z I (xW (yM oM)) (zD I (y5u (y4i _)) (dk.le (Le.q (l:=k+1) oM)) (zD I (y5e (y4i _)) (dj.le (Le.q (l:=k+1) oM)) zP)))) λez di=>(go1 ?_));refine lX (xB yI (y5u pH) am) λey dh=>(go1 ?_);refine lX (xB yI (y5e pH) an) λew df=>(lX (xV (ρ:=(tPt (k+l+1))) (wH (ps':=[(0,_),(1,_)]) underlying31 yS I I sizeOf29 e4z I (xW (yM oM)) (zD I (y5u (y4i _)) (dh.le (Le.q (l:=k+l+1) oM)) (zD I (y5e (y4i _)) (df.le (Le.q (l:=k+l+1) oM)) zP)))) λev de=>(go1 ?_));refine lX (xB yI (y5u pH) am) λeu dd=>(go1 ?_);refine lX (xB yI (y5e pH) am) λes dc=>(lX (xV (ρ:=(tPt (l+1))) (wH (ps':=[(0,_),(1,_)]) underlying31 yS I I sizeOf29 e4z I (xW (yM oM)) (zD I (y5u (y4i _)) (dd.le (Le.q (l:=l+1) oM)) (zD I (y5e (y4i _)) (dc.le (Le.q (l:=l+1) oM)) zP)))) λer db=>(go1 ?_));refine lX (xB yI (y5u pH) an) λeq da=>(go1 ?_);refine lX (xB yI (y5e pH) am) λep cz=>(lX (xV (ρ:=(tPt (k+l+1))) (wH (ps':=[(0,_),(1,_)]) underlying31 yS I I sizeOf29 e4z I (xW (yM oM)) (zD I (y5u (y4i _)) (da.le (Le.q (l:=k+l+1) oM)) (zD I (y5e (y4i _)) (cz.le (Le.q (l:=k+l+1) oM)) zP)))) λeo cy=>(zH (zJ (ρ:=(tPt (k+l+1))) (m:=4) (xs:=[(zZ a),(T3.mk b.x a.y (0:Rat)),(zZ b),(T3.mk a.x b.y (0:Rat))]) (ps':=[(0,_),(1,_),(2,_),(3,_)]) underlying35 yS I I I (xW (yM oM)) e8 (zD I (y4u (y4i _) zT 0 dC) (di.le (Le.t (Le.q (l:=k+l+1) oM))) (zD I (y4u (y4i _) zT 1 dC) de (zD I (y4u (y4i _) zT 2 dC) (db.le (Le.t (Le.q (l:=k+l+1) oM))) (zD I (y4u (y4i _) zT 3 dC) cy zP)))) (show 4*9<=16777216 from by decide) nP) I I I ?_))
 rintro en fh ⟨eb,rfl,cb⟩
 refine zQ (A:=[]) (ρ:=(tPt (k+l+1))) cb ?_;intro h1 dr bw;refine zH (zJ (ρ:=(tLs (k+l+1))) (m:=1) (xs:=[[(zZ a),(T3.mk b.x a.y (0:Rat)),(zZ b),(T3.mk a.x b.y (0:Rat))]]) (ps':=[(0,_)]) underlying76 bH I I I wK e2z (zD I (y4u (y4i _) [] 0 dC) bw zP) zoj nP) I I I ?_
 rintro em fg ⟨ea,rfl,ca⟩
 refine go1 ?_;refine lX (xB yI (y6i pH) an) λel cw=>(go1 ?_);refine lX (xB yI (y6i pH) am) λek cu=>(zQ (A:=[]) (ρ:=(tLs (k+l+1))) ca ?_);intro h2 fm bv;refine uX (vs:=[_,_,_]) I I I I call46 e3z (λw hs=>zJK hs bv cw.up cu.up oM oM oM (by first|omega|exact ao.1|exact ao.2.1) (by first|omega|exact ao.1|exact ao.2.1)) ?_;intro ej h3 fr fl ap;obtain⟨ff,bu,av,rfl,ap,rfl,cf,ae⟩:=ap
 change RL (tFc (1000*(k+l+1)+1000*k+1000*l+2000) (1000*(k+l+1)+1000*k+1000*l+2000)) h3 av (prF [[(zZ a),(T3.mk b.x a.y (0:Rat)),(zZ b),(T3.mk a.x b.y (0:Rat))]] a.z b.z) at ae
 replace ap:=Rp.Is.le ap (Le.p (Le.s (Le.t (Le.q (l:=2*k+2*l+21) oM))) (Le.refl _));replace ae:=(Le.p (Le.p (Le.t (Le.q (l:=2000*k+2000*l+3000) oM)) (Le.q (l:=2000*k+2000*l+3000) oM)) (Le.refl _)).rl ae;refine go3 ?_;refine nA (ρ:=(rpP (tLs 1) (rpP rpV (rpS (rpP rpI (rpP rpI (rpQ 1))))))) (X:=([],((Value.slice none 0 0),[]))) qX (yE wK (yE fC wK)) λb7 fq cn=>?_;have ax:=(Le.p (Le.s (Le.t (Le.q (l:=2*k+2*l+21) oM))) (Le.p (Le.refl _) (Le.s (Le.p (Le.refl _) (Le.p (Le.refl _) (Le.q (l:=5) dC)))))).R cn;refine yD (A:=[]) (uB sizeOf39 pH ax ap) λbt bj=>(uQ ?_);refine gcL (ι:=Nat×List Fc×List Value×Value×List Value×Mem) (λ(i,M,J,C,ah,mb)=>(MLe h3 mb/\((rpP (tLs (2*k+2*l+30)) (rpP rpV (rpS (rpP rpI (rpP rpI (rpQ 5)))))).R mb J (prP (blL a b) a.z b.z,(C,([]:List En)))/\RL (tFc (2000*k+2000*l+3000) (2000*k+2000*l+3000)) mb ah M/\C.oneCell'=true/\i<=(prF (blL a b) a.z b.z).length/\M=iN rnF zA (prF (blL a b) a.z b.z) i),[(4,vP b4 0),(7,vP b7 0),(8,vI (prE [[(zZ a),(T3.mk b.x a.y (0:Rat)),(zZ b),(T3.mk a.x b.y (0:Rat))]] a.z b.z)),(9,vI ↑i)],[.var b7 39 J,.gs 53 14 C M.length ah,.var b4 39 ci,.var b3 31 cj,.var b2 31 ck],mb,(prF (blL a b) a.z b.z).length-i)) (0,(prF (blL a b) a.z b.z),bt,bu,av,h3) ?_ ?_
 · exact⟨mle,((Le.p (Le.s (Le.t (Le.q (l:=2*k+2*l+30) oM))) (Le.refl _)).R bj),ae,cf,by omega,I⟩
 rintro⟨i,M,J,C,ah,mb⟩ ⟨dx,H,D,O,fi,aa⟩
 refine xD ?_;have fp:M.length=(prF (blL a b) a.z b.z).length:=by rw[aa];exact dV _ _ _ _
 refine go5 ?_;refine lX (sE (xB gS (y5i (y4e pH)) H)) λeh ct=>?_;subst ct;refine gv (kF mh1 underlying36 I) I (gc3 (λcg=>?_) λcg=>?_)
 ·
  refine go7 ?_;refine lX (sE (xB gS (y5i (y4e pH)) H)) λeg cq=>?_;subst cq;refine go1 ?_;refine gv ((yK i mh1 underlying36 sizeOf53 I I I bO nP).cv (show _=zG 1 C ((i*14+0)) from zbi (zG 1 C) zo3)) I (go6 ?_);refine gv (rZ (y4u (y4i _) zA i bO) I nP D mh1 I) I (gv ((jA (y4u (y4i _) zA i bO) I nP D mh1 underlying53 I sizeOf9 I).cv (show _=zG 1 C ((i*14+13)) from zbi (zG 1 C) (by show(i*14+0)+13=(i*14+13);omega))) I (zIP (F:=λv_=>qF.Is mb v_ (((M.getD i zA).2).2)) (xE ty9 (y4u (y5i (y5i (y4i _))) zA i bO) I nP I D I) (gC mh1) I ?_));intro ef cp;obtain⟨rfl,ac⟩:=kU cp;refine go5 ?_;refine gv (mW (pa:=(((M.getD i zA).2).2)) (pb:=([98,111,116,116,111,109]:List Nat)) ac (show ByB [98,111,116,116,111,109] by unfold ByB;decide) I I) I (gc3 (λU=>?_) λU=>?_)
  ·
   refine go2 ?_;refine gv (rZ (y4u (y4i _) zA i bO) I nP D mh1 I) I (gv ((jA (y4u (y4i _) zA i bO) I nP D mh1 underlying53 I sizeOf9 I).cv (show _=zG 1 C ((i*14+13)) from zbi (zG 1 C) (by show(i*14+0)+13=(i*14+13);omega))) I (fZ (A:=[_]) (F:=λc_=>RL (tFc (2000*k+2000*l+3000) (2000*k+2000*l+3000)) mb c_ (M.set i ((M.getD i zA).1,(((M.getD i zA).2).1,([122,48]:List Nat))))) (rW sizeOf9 (y4u (y5i (y5i (y4i _))) zA i bO) I nP I I D (bG (show ByB [122,48] by unfold ByB;decide)) I) ?_));intro bs bf;refine go9 ?_;refine gqL ((i+1),(M.set i ((M.getD i zA).1,(((M.getD i zA).2).1,([122,48]:List Nat)))),J,C,bs,mb) ?_ ?_
   · exact⟨mle,H,bf,O,by omega,zPV aa (by unfold rnN;rw[zau U])⟩
   omega
  refine go2 ?_;refine gv (mW (pa:=(((M.getD i zA).2).2)) (pb:=([116,111,112]:List Nat)) ac (show ByB [116,111,112] by unfold ByB;decide) I I) I (gc3 (λZ=>?_) λZ=>?_)
  ·
   refine go2 ?_;refine gv (rZ (y4u (y4i _) zA i bO) I nP D mh1 I) I (gv ((jA (y4u (y4i _) zA i bO) I nP D mh1 underlying53 I sizeOf9 I).cv (show _=zG 1 C ((i*14+13)) from zbi (zG 1 C) (by show(i*14+0)+13=(i*14+13);omega))) I (fZ (A:=[_]) (F:=λc_=>RL (tFc (2000*k+2000*l+3000) (2000*k+2000*l+3000)) mb c_ (M.set i ((M.getD i zA).1,(((M.getD i zA).2).1,([122,49]:List Nat))))) (rW sizeOf9 (y4u (y5i (y5i (y4i _))) zA i bO) I nP I I D (bG (show ByB [122,49] by unfold ByB;decide)) I) ?_));intro br be;refine go9 ?_;refine gqL ((i+1),(M.set i ((M.getD i zA).1,(((M.getD i zA).2).1,([122,49]:List Nat)))),J,C,br,mb) ?_ ?_
   · exact⟨mle,H,be,O,by omega,zPV aa (by unfold rnN;rw[zae U,zau Z])⟩
   omega
  refine go2 ?_;refine gv (mW (pa:=(((M.getD i zA).2).2)) (pb:=([115,48,46,48]:List Nat)) ac (show ByB [115,48,46,48] by unfold ByB;decide) I I) I (gc3 (λab=>?_) λab=>?_)
  ·
   refine go2 ?_;refine gv (rZ (y4u (y4i _) zA i bO) I nP D mh1 I) I (gv ((jA (y4u (y4i _) zA i bO) I nP D mh1 underlying53 I sizeOf9 I).cv (show _=zG 1 C ((i*14+13)) from zbi (zG 1 C) (by show(i*14+0)+13=(i*14+13);omega))) I (fZ (A:=[_]) (F:=λc_=>RL (tFc (2000*k+2000*l+3000) (2000*k+2000*l+3000)) mb c_ (M.set i ((M.getD i zA).1,(((M.getD i zA).2).1,([121,48]:List Nat))))) (rW sizeOf9 (y4u (y5i (y5i (y4i _))) zA i bO) I nP I I D (bG (show ByB [121,48] by unfold ByB;decide)) I) ?_));intro bq bd;refine go9 ?_;refine gqL ((i+1),(M.set i ((M.getD i zA).1,(((M.getD i zA).2).1,([121,48]:List Nat)))),J,C,bq,mb) ?_ ?_
   · exact⟨mle,H,bd,O,by omega,zPV aa (by unfold rnN;rw[zae U,zae Z,zau ab])⟩
   omega
  refine go2 ?_;refine gv (mW (pa:=(((M.getD i zA).2).2)) (pb:=([115,48,46,49]:List Nat)) ac (show ByB [115,48,46,49] by unfold ByB;decide) I I) I (gc3 (λaj=>?_) λaj=>?_)
  ·
   refine go2 ?_;refine gv (rZ (y4u (y4i _) zA i bO) I nP D mh1 I) I (gv ((jA (y4u (y4i _) zA i bO) I nP D mh1 underlying53 I sizeOf9 I).cv (show _=zG 1 C ((i*14+13)) from zbi (zG 1 C) (by show(i*14+0)+13=(i*14+13);omega))) I (fZ (A:=[_]) (F:=λc_=>RL (tFc (2000*k+2000*l+3000) (2000*k+2000*l+3000)) mb c_ (M.set i ((M.getD i zA).1,(((M.getD i zA).2).1,([120,49]:List Nat))))) (rW sizeOf9 (y4u (y5i (y5i (y4i _))) zA i bO) I nP I I D (bG (show ByB [120,49] by unfold ByB;decide)) I) ?_));intro bp bc;refine go9 ?_;refine gqL ((i+1),(M.set i ((M.getD i zA).1,(((M.getD i zA).2).1,([120,49]:List Nat)))),J,C,bp,mb) ?_ ?_
   · exact⟨mle,H,bc,O,by omega,zPV aa (by unfold rnN;rw[zae U,zae Z,zae ab,zau aj])⟩
   omega
  refine go2 ?_;refine gv (mW (pa:=(((M.getD i zA).2).2)) (pb:=([115,48,46,50]:List Nat)) ac (show ByB [115,48,46,50] by unfold ByB;decide) I I) I (gc3 (λak=>?_) λak=>?_)
  ·
   refine go2 ?_;refine gv (rZ (y4u (y4i _) zA i bO) I nP D mh1 I) I (gv ((jA (y4u (y4i _) zA i bO) I nP D mh1 underlying53 I sizeOf9 I).cv (show _=zG 1 C ((i*14+13)) from zbi (zG 1 C) (by show(i*14+0)+13=(i*14+13);omega))) I (fZ (A:=[_]) (F:=λc_=>RL (tFc (2000*k+2000*l+3000) (2000*k+2000*l+3000)) mb c_ (M.set i ((M.getD i zA).1,(((M.getD i zA).2).1,([121,49]:List Nat))))) (rW sizeOf9 (y4u (y5i (y5i (y4i _))) zA i bO) I nP I I D (bG (show ByB [121,49] by unfold ByB;decide)) I) ?_));intro bo bb;refine go9 ?_;refine gqL ((i+1),(M.set i ((M.getD i zA).1,(((M.getD i zA).2).1,([121,49]:List Nat)))),J,C,bo,mb) ?_ ?_
   · exact⟨mle,H,bb,O,by omega,zPV aa (by unfold rnN;rw[zae U,zae Z,zae ab,zae aj,zau ak])⟩
   omega
  refine go2 ?_;refine gv (mW (pa:=(((M.getD i zA).2).2)) (pb:=([115,48,46,51]:List Nat)) ac (show ByB [115,48,46,51] by unfold ByB;decide) I I) I (gc3 (λaq=>?_) λaq=>?_)
  ·
   refine go2 ?_;refine gv (rZ (y4u (y4i _) zA i bO) I nP D mh1 I) I (gv ((jA (y4u (y4i _) zA i bO) I nP D mh1 underlying53 I sizeOf9 I).cv (show _=zG 1 C ((i*14+13)) from zbi (zG 1 C) (by show(i*14+0)+13=(i*14+13);omega))) I (fZ (A:=[_]) (F:=λc_=>RL (tFc (2000*k+2000*l+3000) (2000*k+2000*l+3000)) mb c_ (M.set i ((M.getD i zA).1,(((M.getD i zA).2).1,([120,48]:List Nat))))) (rW sizeOf9 (y4u (y5i (y5i (y4i _))) zA i bO) I nP I I D (bG (show ByB [120,48] by unfold ByB;decide)) I) ?_));intro bn ba;refine go9 ?_;refine gqL ((i+1),(M.set i ((M.getD i zA).1,(((M.getD i zA).2).1,([120,48]:List Nat)))),J,C,bn,mb) ?_ ?_
   · exact⟨mle,H,ba,O,by omega,zPV aa (by unfold rnN;rw[zae U,zae Z,zae ab,zae aj,zae ak,zau aq])⟩
   omega
  refine go9 ?_;refine gqL ((i+1),M,J,C,ah,mb) ?_ ?_
  · exact⟨mle,H,D,O,by omega,yM4 aa (by unfold rnN;rw[zae U,zae Z,zae ab,zae aj,zae ak,zae aq]) oM⟩
  omega
 have ei:i=(prF (blL a b) a.z b.z).length:=by omega
 rw[ei] at aa;refine go7 ?_;refine zQ (A:=[_]) (ρ:=(tFc (2000*k+2000*l+3000) (2000*k+2000*l+3000))) D ?_;intro h4 dq ay;replace H:=H.mono dq;have bi:(tSd (2*k+2*l+30) (2000*k+2000*l+3000) (2000*k+2000*l+3000) 5).R h4 J ((prP (blL a b) a.z b.z,(C,([]:List En))).1,(M,((prP (blL a b) a.z b.z,(C,([]:List En))).2).2)):=zFJ H ay;have bh:(tSd (2*k+2*l+30) (2000*k+2000*l+3000) (2000*k+2000*l+3000) 5).R h4 J (blS a b):=Rp.castR bi (by rw[aa];rfl);refine lX (xB jV pH bh) λee co=>?_;refine uX (vs:=[_]) I I I I call47 ⟨I,y3e⟩ (λw hs=>zAH hs co oM oM oM (by first|omega|exact ao.2.2)) ?_;intro dw h5 ec fk ai;obtain⟨cl,bm,ai,rfl,bl,ad⟩:=ai
 change RL (tFc (4*(2000*k+2000*l+3000)+12) ((2000*k+2000*l+3000)+(2000*k+2000*l+3000)+12)) h5 bm (nrF (blS a b)) at ad
 replace ai:=Rp.Is.le ai (Le.p (Le.s (Le.t (Le.q (l:=2*k+2*l+31) oM))) (Le.p (Le.refl _) (Le.s (Le.p (Le.refl _) (Le.p (Le.refl _) (Le.q (l:=6) oM))))));replace ad:=(Le.p (Le.p (Le.t (Le.q (l:=8000*k+8000*l+12012) oM)) (Le.q (l:=4000*k+4000*l+6012) oM)) (Le.refl _)).rl ad;refine go1 ?_;have aw:=(Le.p (Le.s (Le.t (Le.q (l:=2*k+2*l+31) oM))) (Le.p (Le.refl _) (Le.s (Le.p (Le.refl _) (Le.p (Le.refl _) (Le.q (l:=6) dC)))))).R cd;refine yD (A:=[_,_]) (uB sizeOf39 pH aw ai) λdu bg=>(go4 ?_);obtain⟨e1,e2,e3⟩:=yF8 ce;rw[e1,e2,e3];refine vM (gG (t:=4) jV mh2 I bg) ?_;intro dv au az;refine kV (.cons_cons _ (zsu _)) (λE S=>jW I au (tH I) E S) ?_;exact⟨_,_,_,I,(Rp.Is.cast (Rp.Is.le az (Le.p (Le.s (Le.t (Le.q (l:=2*k+2*l+40) oM))) (Le.refl _))) (by rw[show nrE (blS a b)=[] from by unfold nrE;split<;>rfl])),I,bl,((Le.p (Le.p (Le.t (Le.q (l:=10000*k+10000*l+20000) oM)) (Le.q (l:=10000*k+10000*l+20000) oM)) (Le.refl _)).rl ad)⟩
end Go.Proofs.YtpkaegemlpaenaaGreat
namespace Bk
open Go Go.RowKit
def yGD(w0:World)(h0:Mem)(h:Mem)(X:List Res)(G:Mem->Value->List Res->Prop):Ending->World->Prop:=
 tO w0 h0 (λg v K=>∃Qs',(Qs'++X).Sublist K/\MLe h g/\G g v Qs')
section
variable {P:Program}{n:Nat}{w0:World}{h0:Mem}{e:List (Nat×Value)}{L:List Res}{h:Mem}{Q:Exit->Act->World->Prop}
variable {ty:TypeId}{ps:String}{af:Array Edge}
theorem zL5{ops:Array Oper}{l:List Oper}{A B:List Res}{r:Res}(k':GL P n w0 h0 ops Q l e (A++r::B) h):GL P n w0 h0 ops Q l e (r::(A++B)) h:=
 λa w E S=>k' a w E (S.perm ybe.symm)
theorem zL4{ops:Array Oper}{rest:List Oper}{d f:Nat}{xs:List Operand}{ts:Array TypeId}{vs:List Value}{Qs X:List Res}{G:Mem->Value->List Res->Prop}(hp:L.Perm (Qs++X))(hcall:∀args w,(callFunc f args).run P w=.ok (.enter f args) w)(hvs:cZ e xs vs)
    (hc:∀w,St w0 h0 (Qs++X) h w->Calls P f vs.toArray w (yGD w0 h0 h X G))(hn:Nat.ble (d+1) n=true)(k:∀v g Qs',MLe h g->G g v Qs'->GL P n w0 h0 ops Q rest ((d,v)::e) (Qs'++X) g):
    GL P n w0 h0 ops Q (⟨some d,.call {callee:=.value (.func f),args:=xs.toArray,argTypes:=ts},ty,ps,af,none⟩::rest) e L h:=by
 intro a w D S;refine nY I I I hn hcall hvs hc ?_ a w D (S.perm hp)
 rintro v g K ⟨Qs',H,C,J⟩
 have:=k v g Qs' C J;exactλa w D S=>this a w D (S.sublist H)
end
section
variable {α β:Type}{h:Mem}
theorem vr_1{π:Rp α}{ρ:Rp β}{cs:List Value}{p:α}{v:Value}{xs:List β}(r:(rpP π rpV).R h cs (p,v))(k:(rpS ρ).Is h v xs):(rpP π (rpS ρ)).R h cs (p,xs):=by
 obtain⟨a,b,e,D,C,_⟩:=r;exact⟨a,b,e,D,by rw[show b=[v] from C];exact zKU k⟩
end
end Bk
namespace Bk
open Classical
def thN(a b c:Pt):Pt:=yC (yZ b a) (yZ c a)
def thZ(a b c:Pt):Pl:=if thN a b c=zT then zVG else(thN a b c,zM (thN a b c) a)
def thE(a b c:Pt):Int:=if thN a b c=zT then 9 else 0
theorem yNB{a b c:Pt}(h:thN a b c=zT):thZ a b c=zVG/\thE a b c=9:=⟨zau h,zau h⟩
theorem zXL{a b c:Pt}(h:¬thN a b c=zT):thZ a b c=(thN a b c,zM (thN a b c) a)/\thE a b c=0:=⟨zae h,zae h⟩
def opP(pl:Pl):Pl:=(T3.mk (((-1:Int):Rat)*pl.1.x) (((-1:Int):Rat)*pl.1.y) (((-1:Int):Rat)*pl.1.z),-pl.2)
section
variable (l:List Pt)(t:Pt)
def pyX(i:Nat):Fc:=(thZ (l.getD i zT) (l.getD ((i+1)%l.length) zT) t,[[(i:Int),(((i+1)%l.length:Nat):Int),(l.length:Int)]],[115]++qU (((i:Int):Int):Rat))
def pyT:Nat->List Fc:=wO (pyX l t)
def pyL(n:Nat):Nat->List Int:=wO λi=>(n:Int)-1-(i:Int)
def pyB:Fc:=(opP (thZ (l.getD 0 zT) (l.getD 1 zT) (l.getD 2 zT)),[pyL l.length l.length],[98,97,115,101])
def pyR:Sd:=(l++[t],pyT l t l.length++[pyB l],[])
def pyH:Prop:=((3<=l.length/\l.length<=64)/\¬thN (l.getD 0 zT) (l.getD 1 zT) (l.getD 2 zT)=zT)/\(zHY (thZ (l.getD 0 zT) (l.getD 1 zT) (l.getD 2 zT)) l/\0<sdZ (thZ (l.getD 0 zT) (l.getD 1 zT) (l.getD 2 zT)) t)/\okS (pyR l t)
end
def ag(x p y q:Rat)(u:PI):P2:=(x+p*(u.1:Rat),y+q*(u.2:Rat))
theorem zKE{x p:Rat}{u v:Int}(hp:0<p):x+p*(u:Rat)<x+p*(v:Rat)↔u<v:=by
 constructor
 · intro h
   refine yue.1 λe=>?_;have h1:(v:Rat)<=(u:Rat):=Rat.intCast_le_intCast.2 e;have h2:=yji h1 (zee hp);grind
 · intro h
   have h1:(u:Rat)<(v:Rat):=z4u.2 h;have h2:=Rat.mul_lt_mul_of_pos_left h1 hp;grind
theorem zSB{x p:Rat}{u v:Int}(hp:0<p):x+p*(u:Rat)=x+p*(v:Rat)↔u=v:=by
 constructor
 · intro h
   rcases Int.lt_trichotomy u v with h1|h1|h1
   · have:=(zKE (x:=x) hp).2 h1;grind
   · exact h1
   · have:=(zKE (x:=x) hp).2 h1;grind
 · rintro rfl;rfl
variable {x p y q:Rat}
theorem yHK(u v w:PI):cr (ag x p y q u) (ag x p y q v) (ag x p y q w)=p*q*((crI u v w:Int):Rat):=by
 unfold cr ag crI;simp only[zwi,zpu];grind
theorem vC(hp:0<p)(hq:0<q):0<p*q:=by
 have:=Rat.mul_lt_mul_of_pos_left hq hp;grind
theorem yC5(hp:0<p)(hq:0<q)(u v w:PI):orZ (ag x p y q u) (ag x p y q v) (ag x p y q w)=orI u v w:=by
 unfold orZ orI;rw[yHK,iS (vC hp hq),mN]
 rfl
theorem yHI(hp:0<p)(hq:0<q)(u v:PI):lx (ag x p y q u) (ag x p y q v)↔lxI u v=true:=by
 unfold lx lxI;rw[zgi];unfold ag;simp only[zKE hp,zKE hq,zSB hp]
theorem yHJ(hp:0<p)(hq:0<q)(u v:PI):ag x p y q u=ag x p y q v↔u=v:=by
 obtain⟨D,C⟩:=u;obtain⟨v1,v2⟩:=v;unfold ag;rw[Prod.mk.injEq,Prod.mk.injEq,zSB hp,zSB hq]
theorem yHL{a b c d:Int}(hp:0<p):kS (x+p*(a:Rat)) (x+p*(b:Rat)) (x+p*(c:Rat)) (x+p*(d:Rat))↔apI a b c d=true:=by
 unfold kS apI;rw[zgi];simp only[zKE hp]
theorem yC7{c:Prop} [Decidable c](u v:PI):(if c then ag x p y q u else ag x p y q v)=ag x p y q (if c then u else v):=by split<;>rfl
theorem yOX(hp:0<p)(hq:0<q)(a b c d:PI):eZ (ag x p y q a) (ag x p y q b) (ag x p y q c) (ag x p y q d)=alS a b c d:=by
 unfold eZ alS;simp only[yHI hp hq,yC7,yHJ hp hq]
theorem zPM(hp:0<p)(hq:0<q)(a b c d:PI):tD (ag x p y q a) (ag x p y q b) (ag x p y q c) (ag x p y q d)=toI a b c d:=by
 have D:kS (ag x p y q a).1 (ag x p y q b).1 (ag x p y q c).1 (ag x p y q d).1↔apI a.1 b.1 c.1 d.1=true:=yHL hp;have C:kS (ag x p y q a).2 (ag x p y q b).2 (ag x p y q c).2 (ag x p y q d).2↔apI a.2 b.2 c.2 d.2=true:=yHL hq;unfold tD toI nC alI lo2 hi2;simp only[yC5 hp hq,D,C,yHI hp hq,yC7,yOX hp hq]
def gI(s:List PI)(m:Nat):PI:=s.getD m (0,0)
def zUY(s:List PI):Bool:=decide (3<=s.length)&&(List.range s.length).all λb=>(List.range b).all λa=>!decide (gI s a=gI s b)&&decide (toI (gI s a) (gI s ((a+1)%s.length)) (gI s b) (gI s ((b+1)%s.length))=waI s.length a b)
theorem zF5(hp:0<p)(hq:0<q){l:List Pt}{s:List PI}(hl:l.length=s.length)(h:∀m,m<s.length->pr (gp l m) 0 1=ag x p y q (gI s m))(hb:zUY s=true):aM l 0 1:=by
 unfold zUY at hb;rw[zbu,zgi,zob] at hb;obtain⟨h3,hb⟩:=hb;have g:∀a b,a<b->b<s.length->¬gI s a=gI s b/\toI (gI s a) (gI s ((a+1)%s.length)) (gI s b) (gI s ((b+1)%s.length))=waI s.length a b:=λa b C D=>by
  have h1:=zob.1 (hb b (zog.2 D)) a (zog.2 C);rw[zbu,zku,zge,zgi] at h1;exact h1
 refine⟨by omega,λa b J C H=>?_,λa b J C H=>?_⟩
 · show ¬pr (gp l a) 0 1=pr (gp l b) 0 1
   rw[h a zot,h b zot,yHJ hp hq];exact(g a b C zot).1
 · show tD (vG l 0 1 a) (vD l 0 1 a) (vG l 0 1 b) (vD l 0 1 b)=zIX l.length a b
   unfold vG vD;rw[hl,h a zot,h b zot,h _ (zcu _ zot),h _ (zcu _ zot),zPM hp hq];exact(g a b C zot).2
theorem zGX{P:List Pt}(hs:aM P 0 1)(hl:P.length<=64)(ha:0<yX (arZ P 0 1)):uG [P] 0 1=0:=by
 have D:∀m,m<[P].length->gl [P] m=P:=λm C=>by
  rw[show m=0 by rw[zki] at C;omega];rfl
 unfold uG;rw[zae (λe=>by
  rcases e with e|⟨m,C,e⟩
  · rw[zki] at e;omega
  · rw[D m C] at e;omega),zae (λe=>by
  obtain⟨m,C,e⟩:=e;rw[D m C] at e;exact e hs),zae (λe=>by
  obtain⟨a,b,J,H,_⟩:=e;rw[zki] at H;omega),zae (λe=>by
  rcases e with⟨k,hk,e⟩|⟨a,b,ha',hb',e⟩
  · rw[iD,D k hk] at e;exact e.1 ha
  · rw[zki] at ha' hb'
    exact e.1.1.1 zot)]
theorem zTX{B:List Pt}{p:Pt}:∀j,(∀i,i<j->¬zKN (B.getD i zT) p)->u5 B p j= -1
  |0,_=>rfl
  |j+1,h=>by
   rw[<-yLG (h j zot)];exact zTX j λi hi=>h i zot
theorem yMZ{B:List Pt}{p:Pt}(h:∀i,i<B.length->¬zKN (B.getD i zT) p):adB B p=B++[p]/\adN B p=(B.length:Int):=by
 have h1:fdZ B p<0:=by unfold fdZ;rw[zTX _ h];decide
 exact⟨zau h1,zau h1⟩
def rgI:Nat->List Int:=wO λi=>(i:Int)
theorem zUR{l:List Pt}{i k:Nat}(h:i<k):(l.take k).getD i zT=l.getD i zT:=by
 rw[zoa,zoa,zpe,zau h]
def zO1(l:List Pt):Prop:=∀i j,i<j->j<l.length->¬zKN (l.getD i zT) (l.getD j zT)
theorem zQI{l:List Pt}(hd:zO1 l):∀k,k<=l.length->plB [] l k=l.take k/\plN [] l k=rgI k
  |0,_=>⟨rfl,rfl⟩
  |k+1,hk=>by
   obtain⟨h1,h2⟩:=zQI hd k zot;have hl:(l.take k).length=k:=by rw[zei];omega
   have C:∀i,i<(l.take k).length->¬zKN ((l.take k).getD i zT) (l.getD k zT):=λi hi=>by
    rw[hl] at hi;rw[zUR hi];exact hd i k hi zot
   obtain⟨h3,D⟩:=yMZ C;refine⟨?_,?_⟩
   · show adB (plB [] l k) (l.getD k zT)=_
     rw[h1,h3];rw[zoa,zoc (show k<l.length by omega),zuu (show k<l.length by omega)];rfl
   · show plN [] l k++[adN (plB [] l k) (l.getD k zT)]=rgI k++[(k:Int)]
     rw[h2,h1,D,hl]
theorem zML{l:List Pt}(hd:zO1 l):bsZ [l]=l:=by
 have h:=(zQI hd l.length (zbe _)).1;rw[z6i] at h;exact h
theorem yMD{l:List Pt}(hd:zO1 l):bxZ [l]=[rgI l.length]:=zbi (λz=>[z]) (zQI hd l.length (zbe _)).2
theorem zQS{P:List Pt}(ha:0<yX (arZ P 0 1)):ouZ [P]=1:=zau ha
theorem yEQ{l:List Pt}{lo hi:Rat}(hd:zO1 l)(hs:aM l 0 1)(hl:l.length<=64)(ha:0<yX (arZ l 0 1))(hlh:lo<hi):prE [l] lo hi=0:=by
 unfold prE;rw[zae (λe=>e (zGX hs hl ha)),zae (λe=>e (zQS ha)),zae (λe=>by unfold xU at e;grind),zae];unfold prB;rw[zML hd];have h1:iK [l] [l].length=0+l.length:=I;rw[h1];omega
section
variable {a b:Pt}
def bB(a b:Pt):List Pt:=[T3.mk a.x a.y (0:Rat),T3.mk b.x a.y (0:Rat),T3.mk b.x b.y (0:Rat),T3.mk a.x b.y (0:Rat)]
theorem zUE(h:iL a b):a.x<b.x/\a.y<b.y/\a.z<b.z:=by
 have g:∀{u v:Rat},¬0<=xU u v->u<v:=λ{u v} h=>Rat.not_le.1 λe=>h (by unfold xU;grind);exact⟨g (h 0 zow),g (h 1 zow),g (h 2 zow)⟩
theorem zCK(hx:a.x<b.x)(hy:a.y<b.y):zO1 (bB a b):=by
 intro i j H D;have C:j<4:=D;have:(i=0/\(j=1\/j=2\/j=3))\/(i=1/\(j=2\/j=3))\/(i=2/\j=3):=by omega
 rcases this with⟨rfl,rfl|rfl|rfl⟩|⟨rfl,rfl|rfl⟩|⟨rfl,rfl⟩<;>(intro e;have M:=e.1;have J:=e.2;simp only[bB,List.getD_cons_zero,List.getD_cons_succ] at M J;grind)
def uI:List PI:=[(0,0),(1,0),(1,1),(0,1)]
theorem yOS:∀m,m<uI.length->pr (gp (bB a b) m) 0 1=ag a.x (b.x-a.x) a.y (b.y-a.y) (gI uI m):=by
 intro m C;have H:m<4:=C;have e0:((0:Int):Rat)=0:=I;have D:((1:Int):Rat)=1:=I;have:m=0\/m=1\/m=2\/m=3:=by omega
 rcases this with rfl|rfl|rfl|rfl<;>(unfold ag;refine Prod.ext ?_ ?_<;>simp[pr,gp,bB,gI,uI,T3.at,e0,D]<;>grind)
theorem yMI(hx:a.x<b.x)(hy:a.y<b.y):aM (bB a b) 0 1:=zF5 (x:=a.x) (p:=b.x-a.x) (y:=a.y) (q:=b.y-a.y) (s:=uI) zo0 zo0 rfl yOS (by decide +kernel)
theorem yGA:arZ (bB a b) 0 1=2*((b.x-a.x)*(b.y-a.y)):=by
 unfold arZ;simp[uV,gp,bB,T3.at];grind
theorem yCW(hx:a.x<b.x)(hy:a.y<b.y):0<yX (arZ (bB a b) 0 1):=by
 rw[yGA,nM];have:=vC (p:=b.x-a.x) (q:=b.y-a.y) zo0 zo0;grind
theorem yCO(h:iL a b):blE a b=0:=by
 obtain⟨hx,hy,hz⟩:=zUE h;rw[(yF8 h).1];exact yEQ (zCK hx hy) (yMI hx hy) (show 4<=64 by decide) (yCW hx hy) hz
def cB(a b:Pt)(x y z:Bool):Pt:=T3.mk (if x then b.x else a.x) (if y then b.y else a.y) (if z then b.z else a.z)
def pB0(a b:Pt):List Pt:=[cB a b false false false,cB a b true false false,cB a b true true false,cB a b false true false,cB a b false false true,cB a b true false true,cB a b true true true,cB a b false true true]
theorem zF8(hx:a.x<b.x)(hy:a.y<b.y):ppZ (blL a b) a.z b.z=pB0 a b:=by
 have h:bsZ (blL a b)=bB a b:=zML (zCK hx hy);unfold ppZ zVC;rw[h]
 show wO _ 8=_
 have H:(bB a b).length=4:=I;have C:∀i:Nat,4<=i->(if((4:Nat):Int)<=(i:Int) then b.z else a.z)=b.z:=λi hi=>zau zot;have D:∀i:Nat,i<4->(if((4:Nat):Int)<=(i:Int) then b.z else a.z)=a.z:=λi hi=>zae zot;simp only[wO,zhe,zje,H];rw[D 0 zow,D 1 zow,D 2 zow,D 3 zow,C 4 zow,C 5 zow,C 6 zow,C 7 zow]
 rfl
theorem zPI(hx:a.x<b.x)(hy:a.y<b.y):bxZ (blL a b)=[[0,1,2,3]]:=yMD (zCK hx hy)
def sF(A B:Pt)(i j:Int)(nm:List Nat):Fc:=((T3.mk (B.y-A.y) (-(B.x-A.x)) (0:Rat),zM (T3.mk (B.y-A.y) (-(B.x-A.x)) (0:Rat)) A),[[i,j,j+4,i+4]],nm)
def bF0(a b:Pt):Fc:=((T3.mk (0:Rat) (0:Rat) (-((1:Int):Rat)),-a.z),[[3,2,1,0]],[98,111,116,116,111,109])
def tF0(a b:Pt):Fc:=((T3.mk (0:Rat) (0:Rat) ((1:Int):Rat),b.z),[[4,5,6,7]],[116,111,112])
def fB0(a b:Pt):List Fc:=[sF (cB a b false false false) (cB a b true false false) 0 1 (nmS 0 0),sF (cB a b true false false) (cB a b true true false) 1 2 (nmS 0 1),sF (cB a b true true false) (cB a b false true false) 2 3 (nmS 0 2),sF (cB a b false true false) (cB a b false false false) 3 0 (nmS 0 3),bF0 a b,tF0 a b]
theorem zBE(hx:a.x<b.x)(hy:a.y<b.y){k:Nat}(hk:k<4):sdF (blL a b) a.z b.z 0 k=sF ((pB0 a b).getD k zT) ((pB0 a b).getD ((k+1)%4) zT) (k:Int) (((k+1)%4:Nat):Int) (nmS 0 k):=by
 have C:=zPI hx hy;have J:((bsZ (blL a b)).length:Int)=4:=by rw[show bsZ (blL a b)=bB a b from zML (zCK hx hy)];rfl
 have H:sdA (blL a b) 0 k=(k:Int):=by
  unfold sdA;rw[C];have:k=0\/k=1\/k=2\/k=3:=by omega
  rcases this with rfl|rfl|rfl|rfl<;>rfl
 have D:sdB (blL a b) 0 k=(((k+1)%4:Nat):Int):=by
  unfold sdB;rw[C];have:k=0\/k=1\/k=2\/k=3:=by omega
  rcases this with rfl|rfl|rfl|rfl<;>rfl
 have M:sdN (blL a b) a.z b.z 0 k=T3.mk (((pB0 a b).getD ((k+1)%4) zT).y-((pB0 a b).getD k zT).y) (-(((pB0 a b).getD ((k+1)%4) zT).x-((pB0 a b).getD k zT).x)) (0:Rat):=by
  unfold sdN;rw[zF8 hx hy,H,D,z1i,z1i]
 unfold sdF;rw[M,zF8 hx hy,H,D,J,z1i]
 rfl
theorem zNK(hx:a.x<b.x)(hy:a.y<b.y):prR (blL a b) a.z b.z=(pB0 a b,fB0 a b,[]):=by
 have C:=zPI hx hy;have D:((bsZ (blL a b)).length:Int)=4:=by rw[show bsZ (blL a b)=bB a b from zML (zCK hx hy)];rfl
 unfold prR;rw[zF8 hx hy];refine zbi (λz=>(pB0 a b,z,([]:List En))) ?_;have M:zM7 (blL a b) a.z b.z (bxZ (blL a b)).length=[sdF (blL a b) a.z b.z 0 0,sdF (blL a b) a.z b.z 0 1,sdF (blL a b) a.z b.z 0 2,sdF (blL a b) a.z b.z 0 3]:=by
  rw[C]
  show[]++sfX (blL a b) a.z b.z 0 ((bxZ (blL a b)).getD 0 []).length=_
  rw[C];rfl
 have J:btF (blL a b) a.z=bF0 a b:=by
  unfold btF bF0 yCN;rw[C];rfl
 have H:tpF (blL a b) b.z=tF0 a b:=by
  unfold tpF tF0 zXK tpL;rw[C,D];rfl
 rw[M,J,H,zBE hx hy zow,zBE hx hy zow,zBE hx hy zow,zBE hx hy zow]
 rfl
theorem oN{n:Nat}(h:n<10):qU (((n:Int):Int):Rat)=[48+n]:=by
 unfold qU;rw[Rat.num_intCast,Rat.den_intCast,zae zot,zau aF,Int.natAbs_natCast]
 by_cases h0:n=0
 · subst h0;rfl
 · rw[yDN h0 h];rfl
theorem yJ9{k:Nat}(h:k<10):nmS 0 k=[115,48,46,48+k]:=by
 unfold nmS;rw[oN (n:=0) zow,oN h];rfl
end
def zEL(p:Nat->Bool):Nat->Nat
  |0=>0
  |k+1=>if p k then zEL p k else k+1
theorem zCI{P:Nat->Prop}{p:Nat->Bool}:∀n,(∀k,k<n->(P k↔p k=true))->aR P n=zEL p n
  |0,_=>rfl
  |n+1,h=>by
   have ih:=zCI n λk hk=>h k zot;have h1:=h n zot;unfold aR zEL;rw[ih]
   by_cases hp:P n
   · rw[zau hp,zau (h1.1 hp)]
   · rw[zae hp,zae (λe=>hp (h1.2 e))]
def usB(E:List E5)(i:Nat):Bool:=E.any λe=>decide (e.1=(i:Int))
theorem zXF(E:List E5)(i:Nat):zKI E E.length i↔usB E i=true:=by
 unfold usB;rw[List.any_eq_true];constructor
 · rintro⟨q,C,h⟩
   exact⟨_,kR C,decide_eq_true h⟩
 · rintro⟨e,D,h⟩
   obtain⟨q,C,rfl⟩:=yfe D;refine⟨q,C,?_⟩;rw[zoa,zoc C];exact yau h
def orB(E:List E5)(lt:Nat->Nat->Bool):Nat->List Int
  |0=>[]
  |i+1=>if usB E i then dM (orB E lt i) (zEL (λk=>lt i ((orB E lt i).getD k 0).toNat) (orB E lt i).length) (i:Int) else orB E lt i
theorem zQV{s:Sd}{lt:Nat->Nat->Bool}{n:Nat}(h:∀i k,i<n->k<n->(lsP (gp s.1 i) (gp s.1 k)↔lt i k=true)):∀i,i<=n->aO s i=orB (edZ (wZ s)) lt i
  |0,_=>rfl
  |i+1,hi=>by
   have ih:=zQV h i zot;unfold aO orB;have hb:aR (zVK s (aO s i) i) (aO s i).length=zEL (λk=>lt i ((orB (edZ (wZ s)) lt i).getD k 0).toNat) (orB (edZ (wZ s)) lt i).length:=by
    rw[<-ih];refine zCI _ λk hk=>?_;have:=oV hk;exact h i _ zot zot
   rw[hb,ih]
   by_cases hu:zKI (edZ (wZ s)) (edZ (wZ s)).length i
   · rw[zau hu,zau ((zXF _ _).1 hu)]
   · rw[zae hu,zae (λe=>hu ((zXF _ _).2 e))]
abbrev B3:=Bool×Bool×Bool
def lt3(u v:B3):Bool:=(!u.1&&v.1)||(u.1==v.1&&((!u.2.1&&v.2.1)||(u.2.1==v.2.1&&(!u.2.2&&v.2.2))))
def cU(a b:Pt)(u:B3):Pt:=cB a b u.1 u.2.1 u.2.2
variable {a b:Pt}
theorem zWB(hx:a.x<b.x)(hy:a.y<b.y)(hz:a.z<b.z)(u v:B3):lsP (cU a b u) (cU a b v)↔lt3 u v=true:=by
 obtain⟨D,C,u3⟩:=u;obtain⟨v1,v2,v3⟩:=v
 cases D<;>cases C<;>cases u3<;>cases v1<;>cases v2<;>cases v3<;>simp[lsP,cU,cB,lt3]<;>grind
theorem yL9(hx:a.x<b.x)(hy:a.y<b.y)(hz:a.z<b.z){u v:B3}(h:cU a b u=cU a b v):u=v:=by
 obtain⟨D,C,u3⟩:=u;obtain⟨v1,v2,v3⟩:=v;have h1:=zbi T3.x h;have h2:=zbi T3.y h;have h3:=zbi T3.z h
 cases D<;>cases C<;>cases u3<;>cases v1<;>cases v2<;>cases v3<;>first|rfl|(exfalso;simp[cU,cB] at h1 h2 h3;grind)
def uB0:List B3:=[(false,false,false),(true,false,false),(true,true,false),(false,true,false),(false,false,true),(true,false,true),(true,true,true),(false,true,true)]
theorem oT:pB0 a b=uB0.map (cU a b):=rfl
theorem zB4{l:List B3}{i:Nat}(h:i<l.length):gp (l.map (cU a b)) i=cU a b (l.getD i (false,false,false)):=by
 unfold gp;rw[zoa,zoa,zvi,zoc h];rfl
theorem zJF(hx:a.x<b.x)(hy:a.y<b.y)(hz:a.z<b.z){l:List B3}{F:List Fc}{E:List En}:fX (l.map (cU a b),F,E)=orB (edZ (wZ (l.map (cU a b),F,E))) (λi k=>lt3 (l.getD i (false,false,false)) (l.getD k (false,false,false))) l.length:=by
 unfold fX;rw[show(l.map (cU a b),F,E).1.length=l.length from zde _];refine zQV (n:=l.length) (λi k hi hk=>?_) _ (zbe _)
 show lsP (gp (l.map (cU a b)) i) (gp (l.map (cU a b)) k)↔_
 rw[zB4 hi,zB4 hk];exact zWB hx hy hz _ _
theorem dH:wZ (pB0 a b,fB0 a b,[])=[[[0,1,5,4]],[[1,2,6,5]],[[2,3,7,6]],[[3,0,4,7]],[[3,2,1,0]],[[4,5,6,7]]]:=rfl
theorem zNS(hx:a.x<b.x)(hy:a.y<b.y)(hz:a.z<b.z):fX (pB0 a b,fB0 a b,[])=[0,4,3,7,1,5,2,6]:=by
 rw[oT,zJF hx hy hz,<-oT,dH]
 decide +kernel
theorem bS{α:Type}{p:Nat->Prop}{g:Nat->α}:∀{n},(∀i,i<n->¬p i)->cW p g n=[]
  |0,_=>rfl
  |n+1,h=>by
   rw[<-zBC (h n zot)];exact bS λi hi=>h i zot
theorem zDQ{α:Type}{g:Nat->List α}:∀{n},(∀i,i<n->g i=[])->gM g n=[]
  |0,_=>rfl
  |n+1,h=>by
   show gM g n++g n=[]
   rw[h n zot,zDQ λi hi=>h i zot];rfl
def tmB(E:List E5)(a b:Int):Nat->Int
  |0=>0
  |m+1=>if(E.getD m ((0:Int),(0:Int),(0:Int),(0:Int),(0:Int))).1=a/\(E.getD m ((0:Int),(0:Int),(0:Int),(0:Int),(0:Int))).2.1=b then tmB E a b m+1 else tmB E a b m
theorem zPW(E:List E5)(a b:Int):∀m,iO E a b m=tmB E a b m
  |0=>rfl
  |m+1=>by
   unfold iO tmB;rw[zPW E a b m]
   by_cases h:zO4 (E.getD m ((0:Int),(0:Int),(0:Int),(0:Int),(0:Int))) a b
   · rw[zau h];exact(zau h).symm
   · rw[zae h];exact(zae h).symm
def clB(E:List E5):Bool:=(List.range E.length).all λi=>!decide (tmB E (E.getD i ((0:Int),(0:Int),(0:Int),(0:Int),(0:Int))).2.1 (E.getD i ((0:Int),(0:Int),(0:Int),(0:Int),(0:Int))).1 E.length<tmB E (E.getD i ((0:Int),(0:Int),(0:Int),(0:Int),(0:Int))).1 (E.getD i ((0:Int),(0:Int),(0:Int),(0:Int),(0:Int))).2.1 E.length)
theorem yHC{F:List (List (List Int))}(hv:vaP F)(h:clB (edZ F)=true):clZ F=[]:=by
 unfold clZ;rw[zau hv];unfold yLX;refine bS λi hi=>?_;have h1:=zob.1 h i (zog.2 hi);rw[zku,zge] at h1;unfold yFS tmZ;rw[zPW,zPW];exact h1
theorem yGN{s:Sd}(hb:¬zPK s)(hf:∀f,f<s.2.1.length->vfP (s.2.1.getD f zA).2.1/\nmP s f):szZ s=[]:=by
 unfold szZ;rw[zae hb];exact bS λf C e=>by
  rcases e with e|e
  · exact e (hf f C).1
  · exact e (hf f C).2
theorem yGK{s:Sd}(h:∀i k,k<i->i<s.1.length->¬gp s.1 i=gp s.1 k):zMV s s.1.length=[]:=bS λi hi e=>by
 obtain⟨k,hk,e⟩:=e;exact h i k hk hi e
theorem yGT{s:Sd}(hz:∀f,f<s.2.1.length->¬(s.2.1.getD f zA).1.1=zT)(ho:∀f,f<s.2.1.length->∀l,l<(xR s f).length->∀k,k<(gl (xR s f) l).length->sdZ (s.2.1.getD f zA).1 (gp (gl (xR s f) l) k)=0):plZ s=[]:=by
 have h1:zUN s s.2.1.length=[]:=bS λf hf e=>hz f hf e;have h2:zQW s s.2.1.length=[]:=zDQ λf hf=>zDQ λl C=>bS λk hk e=>e (ho f hf l C k hk);unfold plZ;rw[h1,h2];rfl
theorem yGX{s:Sd}(h:∀f,f<s.2.1.length->uG (fJ s f) 0 1=0/\ouZ (fJ s f)=1):neZ s=[]:=by
 have h1:yCL s s.2.1.length=[]:=bS λf hf e=>e (h f hf).1;have h2:yKB s s.2.1.length=[]:=bS λf hf e=>e (h f hf).2;unfold neZ;rw[h1,h2];rfl
theorem zSM{s:Sd}(h1:szZ s=[])(h2:zMV s s.1.length=[])(h3:plZ s=[])(h4:neZ s=[])(h5:clZ (wZ s)=[]):kC s:=by
 unfold kC yCD;rw[h1,h2,h3,h4,h5];rfl
theorem yOK{s:Sd}{f:Nat}{i j k l:Int}(hf:f<s.2.1.length)(hn:nmP s f)(hl:(s.2.1.getD f zA).2.1=[[i,j,k,l]]):xR s f=[[gp s.1 i.toNat,gp s.1 j.toNat,gp s.1 k.toNat,gp s.1 l.toNat]]:=by
 rw[zR3 hf hn,hl];unfold zHW;rw[hl];rfl
theorem zTR{s:Sd}{f:Nat}{A B C D:Pt}(h:xR s f=[[A,B,C,D]]):fJ s f=[[qL (s.2.1.getD f zA).1 A,qL (s.2.1.getD f zA).1 B,qL (s.2.1.getD f zA).1 C,qL (s.2.1.getD f zA).1 D]]:=by
 unfold fJ;rw[h];rfl
theorem yJO{x p y q:Rat}(hp:0<p)(hq:0<q){l:List Pt}{t:List PI}(ht:t=[(0,0),(1,0),(1,1),(0,1)]\/t=[(1,0),(1,1),(0,1),(0,0)]\/t=[(1,1),(0,1),(0,0),(1,0)]\/t=[(0,1),(0,0),(1,0),(1,1)])
    (hl:l=t.map λu=>T3.mk (x+p*(u.1:Rat)) (y+q*(u.2:Rat)) (0:Rat)):uG [l] 0 1=0/\ouZ [l]=1:=by
 have U:t.length=4:=by rcases ht with rfl|rfl|rfl|rfl<;>rfl
 have D:l.length=t.length:=by rw[hl,zde]
 have J:∀m,m<t.length->pr (gp l m) 0 1=ag x p y q (gI t m):=λm H=>by
  rw[hl];unfold gp gI;rw[zoa,zoa,zvi,zoc H]
  rfl
 have hs:aM l 0 1:=zF5 hp hq D J (by rcases ht with rfl|rfl|rfl|rfl<;>decide +kernel);have e0:((0:Int):Rat)=0:=I;have O:((1:Int):Rat)=1:=I;have M:arZ l 0 1=2*(p*q):=by
  unfold arZ
  rcases ht with rfl|rfl|rfl|rfl<;>(subst hl;simp[uV,gp,T3.at,e0,O];grind)
 have C:0<yX (arZ l 0 1):=by
  rw[M,nM];have:=vC hp hq;grind
 exact⟨zGX hs zot C,zQS C⟩
section
variable {x p y q:Rat}
def lay(x p y q:Rat)(s:List PI)(l:List Pt):Prop:=l.length=s.length/\∀m,m<s.length->pr (gp l m) 0 1=ag x p y q (gI s m)
def arG(s:List PI):Nat->Int
  |0=>0
  |m+1=>arG s m+((gI s m).1*(gI s ((m+1)%s.length)).2-(gI s ((m+1)%s.length)).1*(gI s m).2)
theorem zOP{s:List PI}{l:List Pt}(h:lay x p y q s l):∀m,m<=s.length->
 uV l 0 1 m=p*q*((arG s m:Int):Rat)+x*q*(((gI s (m%s.length)).2:Rat)-((gI s 0).2:Rat))-y*p*(((gI s (m%s.length)).1:Rat)-((gI s 0).1:Rat))
 |0,_=>by
  rw[Nat.zero_mod]
  show(0:Rat)=p*q*((0:Int):Rat)+_-_
  have:((0:Int):Rat)=0:=rfl;rw[this];grind
 |m+1,hm=>by
  have ih:=zOP h m zot;have e1:=h.2 m zot;have e2:=h.2 ((m+1)%s.length) (zcu _ zot);have hmod:m%s.length=m:=zoh zot;rw[hmod] at ih;have a1:(gp l m).at 0=x+p*((gI s m).1:Rat):=zbi Prod.fst e1;have a2:(gp l m).at 1=y+q*((gI s m).2:Rat):=zbi Prod.snd e1;have b1:(gp l ((m+1)%s.length)).at 0=x+p*((gI s ((m+1)%s.length)).1:Rat):=zbi Prod.fst e2;have b2:(gp l ((m+1)%s.length)).at 1=y+q*((gI s ((m+1)%s.length)).2:Rat):=zbi Prod.snd e2
  show uV l 0 1 m+((gp l m).at 0*(gp l ((m+1)%l.length)).at 1-(gp l ((m+1)%l.length)).at 0*(gp l m).at 1)=_
  rw[h.1,ih,a1,a2,b1,b2]
  show _=p*q*((arG s m+((gI s m).1*(gI s ((m+1)%s.length)).2-(gI s ((m+1)%s.length)).1*(gI s m).2):Int):Rat)+_-_
  simp only[zne,zwi,zpu];grind
theorem yAQ{s:List PI}{l:List Pt}(h:lay x p y q s l):arZ l 0 1=p*q*((arG s s.length:Int):Rat):=by
 unfold arZ;rw[h.1,zOP h _ (zbe _),y2u];grind
theorem zE9(hp:0<p)(hq:0<q){s:List PI}{l:List Pt}(h:lay x p y q s l):yX (arZ l 0 1)=sgI (arG s s.length):=by
 rw[yAQ h,iS (vC hp hq),mN];rfl
theorem zLT(hp:0<p)(hq:0<q){s:List PI}{l:List Pt}(h:lay x p y q s l)(hb:zUY s=true):aM l 0 1:=zF5 hp hq h.1 h.2 hb
theorem aB{s:List PI}{l:List Pt}(h:lay x p y q s l){m:Nat}(hm:m<s.length):vG l 0 1 m=ag x p y q (gI s m)/\vD l 0 1 m=ag x p y q (gI s ((m+1)%s.length)):=by
 unfold vG vD;rw[h.1];exact⟨h.2 m hm,h.2 _ (zcu _ zot)⟩
def btI(a b c:Int):Bool:=decide ((a<=c/\c<=b)\/(b<=c/\c<=a))
def yES(u v w:PI):Bool:=btI u.1 v.1 w.1&&btI u.2 v.2 w.2&&decide (crI u v w=0)
def csI(u v w:PI):Bool:=decide (¬(u.2<=w.2↔v.2<=w.2)/\((u.2<=w.2/\0<crI u v w)\/(v.2<=w.2/\crI u v w<0)))
def odI(s:List PI)(w:PI):Nat->Bool
  |0=>false
  |m+1=>csI (gI s m) (gI s ((m+1)%s.length)) w != odI s w m
def inI(s:List PI)(w:PI):Int:=if(List.range s.length).any λm=>yES (gI s m) (gI s ((m+1)%s.length)) w then 0 else if odI s w s.length then 1 else -1
theorem yC6{a b:Int}(hp:0<p):x+p*(a:Rat)<=x+p*(b:Rat)↔a<=b:=by
 rw[<-Rat.not_lt,zKE hp,Int.not_lt]
theorem yHH(hp:0<p)(hq:0<q)(u v w:PI):onS (ag x p y q u) (ag x p y q v) (ag x p y q w)↔yES u v w=true:=by
 have hc:cr (ag x p y q u) (ag x p y q v) (ag x p y q w)=0↔crI u v w=0:=by
  rw[yHK];have h0:¬p*q=0:=λe=>absurd (e▸vC hp hq) zow;constructor
  · intro e
    rcases zoe.1 e with e|e
    · exact absurd e h0
    · exact zqu.1 e
  · intro e
    rw[e];exact y2e _
 unfold onS yES qY btI;rw[hc,zbu,zbu,zgi,zgi,zgi];unfold ag;simp only[yC6 hp,yC6 hq];constructor
 · rintro⟨a,b,c⟩;exact⟨⟨by omega,by omega⟩,c⟩
 · rintro⟨⟨a,b⟩,c⟩;exact⟨by omega,by omega,c⟩
theorem y4{n:Int}:0<sgI n↔0<n:=by unfold sgI;split<;>(try split)<;>omega
theorem zSQ{n:Int}:sgI n<0↔n<0:=by unfold sgI;split<;>(try split)<;>omega
theorem yOW(hp:0<p)(hq:0<q)(u v w:PI):uU (ag x p y q u) (ag x p y q v) (ag x p y q w)↔csI u v w=true:=by
 unfold uU csI;rw[zgi,yC5 hp hq];unfold orI;rw[y4,zSQ];unfold ag;simp only[yC6 hq]
theorem zLU(hp:0<p)(hq:0<q){s:List PI}{l:List Pt}(h:lay x p y q s l)(w:PI):∀m,m<=s.length->(jN l (ag x p y q w) 0 1 m↔odI s w m=true)
  |0,_=>by simp[jN,odI]
  |m+1,hm=>by
   have ih:=zLU hp hq h w m zot;obtain⟨e1,e2⟩:=aB h (m:=m) zot;unfold jN odI;rw[e1,e2,yOW hp hq,ih]
   cases csI (gI s m) (gI s ((m+1)%s.length)) w<;>cases odI s w m<;>simp
theorem yKO(hp:0<p)(hq:0<q){s:List PI}{l:List Pt}(h:lay x p y q s l)(w:PI):kW l (ag x p y q w) 0 1=inI s w:=by
 unfold kW inI;have h1:(∃m,m<l.length/\onS (vG l 0 1 m) (vD l 0 1 m) (ag x p y q w))↔((List.range s.length).any λm=>yES (gI s m) (gI s ((m+1)%s.length)) w)=true:=by
  rw[List.any_eq_true,h.1];constructor
  · rintro⟨m,D,e⟩
    obtain⟨H,C⟩:=aB h D;rw[H,C,yHH hp hq] at e;exact⟨m,zog.2 D,e⟩
  · rintro⟨m,D,e⟩
    have D:=zog.1 D;obtain⟨H,C⟩:=aB h D;refine⟨m,D,?_⟩;rw[H,C,yHH hp hq];exact e
 by_cases e:∃m,m<l.length/\onS (vG l 0 1 m) (vD l 0 1 m) (ag x p y q w)
 · rw[zau e,zau (h1.1 e)]
 · rw[zae e,zae λe'=>e (h1.2 e'),h.1]
   by_cases C:jN l (ag x p y q w) 0 1 s.length
   · rw[zau C,zau ((zLU hp hq h w _ (zbe _)).1 C)]
   · rw[zae C,zae λe'=>C ((zLU hp hq h w _ (zbe _)).2 e')]
def dbI(s:List PI):List PI:=s.map λu=>(2*u.1,2*u.2)
def miI(u v:PI):PI:=(u.1+v.1,u.2+v.2)
theorem yLP(s:List PI){m:Nat}(hm:m<s.length):gI (dbI s) m=(2*(gI s m).1,2*(gI s m).2):=by
 unfold gI dbI;rw[zoa,zoa,zvi,zoc hm];rfl
theorem yKP{s:List PI}{l:List Pt}(h:lay x p y q s l):lay x (p/2) y (q/2) (dbI s) l:=by
 have D:(dbI s).length=s.length:=zde _;refine⟨by rw[D];exact h.1,λm C=>?_⟩;rw[D] at C;rw[h.2 m C,yLP s C];unfold ag;have e:∀a:Int,(((2*a:Int)):Rat)=2*(a:Rat):=λa=>by rw[zpu];rfl
 show(x+p*_,y+q*_)=(x+p/2*(((2*_:Int)):Rat),y+q/2*(((2*_:Int)):Rat))
 rw[e,e];refine Prod.ext ?_ ?_
 · show x+p*_=x+p/2*(2*_);grind
 · show y+q*_=y+q/2*(2*_);grind
theorem yMW(u v:PI):zRJ (ag x p y q u) (ag x p y q v)=ag x (p/2) y (q/2) (miI u v):=by
 have C:zHG=1/2:=zJW.symm.trans I;unfold zRJ ag miI zDD;rw[C];simp only[zne];refine Prod.ext ?_ ?_
 · show(x+p*_+(x+p*_))*(1/2)=x+p/2*(_+_);grind
 · show(y+q*_+(y+q*_))*(1/2)=y+q/2*(_+_);grind
def wiB(c s:List PI):Bool:=(List.range s.length).all λm=>decide (inI (dbI c) (miI (gI s m) (gI s ((m+1)%s.length)))=1)
theorem zMQ{c l:List Pt}(h:∀m,m<l.length->kW c (zRJ (vG l 0 1 m) (vD l 0 1 m)) 0 1=1):∀m,m<=l.length->cA c l 0 1 m=m
  |0,_=>rfl
  |m+1,hm=>by
   unfold cA;rw[zau (h m zot),zMQ h m zot];omega
theorem yAP(hp:0<p)(hq:0<q){s t:List PI}{c l:List Pt}(hc:lay x p y q s c)(hl:lay x p y q t l)(h:wiB s t=true):wiZ c l 0 1=l.length:=by
 refine zMQ (λm C=>?_) _ (zbe _);rw[hl.1] at C;obtain⟨H,D⟩:=aB hl C;rw[H,D,yMW,yKO (p:=p/2) (q:=q/2) zo0 zo0 (yKP hc)];have:=zob.1 h m (zog.2 C);exact yau this
theorem zJB{P:List Pt}(h:0<yX (arZ P 0 1)):cY P:=zDR λe=>by
 have e':arZ P 0 1=0:=e;rw[e',show yX 0=0 from zau rfl] at h;omega
def noX(s t:List PI):Bool:=(List.range s.length).all λa=>(List.range t.length).all λb=>!decide (1<toI (gI s a) (gI s ((a+1)%s.length)) (gI t b) (gI t ((b+1)%t.length)))
theorem yFB(hp:0<p)(hq:0<q){s t:List PI}{c l:List Pt}(hc:lay x p y q s c)(hl:lay x p y q t l)(h:noX s t=true):¬gZ c l 0 1:=by
 rintro⟨a,b,D,C,e⟩
 rw[hc.1] at D;rw[hl.1] at C;unfold s5 at e;rw[(aB hc D).1,(aB hc D).2,(aB hl C).1,(aB hl C).2,zPM hp hq] at e;have h1:=zob.1 (zob.1 h a (zog.2 D)) b (zog.2 C);rw[zku,zge] at h1;exact h1 e
theorem zZZ{P Q:List Pt}(hs:aM P 0 1)(ht:aM Q 0 1)(hl:P.length<=64/\Q.length<=64)(hx:¬gZ P Q 0 1)(ha:0<yX (arZ P 0 1))(hw:wiZ P Q 0 1=Q.length):uG [P,Q] 0 1=0:=by
 have C:∀m,m<[P,Q].length->m=0\/m=1:=λm D=>by have:m<2:=D;omega
 have J:yOQ [P,Q] 0 1 1 0 (-1):=⟨⟨ha,hw⟩,.inl zow⟩;have Z:pZ [P,Q] 0 1 0= -1:=zau ha;have U:0<=sD [P,Q] 0 1 1 2:=by
  have O:sD [P,Q] 0 1 1 1=0:=zau J;unfold sD;rw[O]
  split<;>decide
 unfold uG;rw[zae (λe=>by
  rcases e with e|⟨m,D,e⟩
  · have:16<2:=e
    omega
  · rcases C m D with rfl|rfl
    · have:64<P.length:=e
      omega
    · have:64<Q.length:=e
      omega),zae (λe=>by
  obtain⟨m,D,e⟩:=e
  rcases C m D with rfl|rfl
  · exact e hs
  · exact e ht),zae (λe=>by
  obtain⟨a,b,M,J,e⟩:=e;have:b<2:=J;have:a=0/\b=1:=by omega
  obtain⟨rfl,rfl⟩:=this;exact hx e),zae (λe=>by
  rcases e with⟨k,hk,e⟩|⟨a,b,hka,hkb,e⟩
  · rcases C k hk with rfl|rfl
    · exact e.1 ha
    · have:=e.2
      have e2:sD [P,Q] 0 1 1 [P,Q].length=sD [P,Q] 0 1 1 2:=I;omega
  · obtain⟨⟨⟨H,h0⟩,he⟩,_⟩:=e
    rcases C a hka with rfl|rfl
    · omega
    · rcases C b hkb with rfl|rfl
      · omega
      · exact H I)]
def nsI(S:List (List PI)):Bool:=
 match S with
 |[s]=>zUY s&&decide (s.length<=64)&&decide (0<arG s s.length)
 |[s,t]=>zUY s&&zUY t&&decide (s.length<=64/\t.length<=64)&&noX s t&&decide (0<arG s s.length)&&decide (arG t t.length<0)&&wiB s t
 |_=>false
def yKQ(x p y q:Rat)(S:List (List PI))(L:List (List Pt)):Prop:=L.length=S.length/\∀m,m<S.length->lay x p y q (S.getD m []) (gl L m)
theorem zOA(hp:0<p)(hq:0<q){S:List (List PI)}{L:List (List Pt)}(h:yKQ x p y q S L)(hb:nsI S=true):uG L 0 1=0/\ouZ L=1/\∀l,l∈L->cY l:=by
 match S,hb with
 |[s],hb=>
  match L,h.1 with
  |[l],_=>
   have h0:lay x p y q s l:=h.2 0 (show 0<_ from yle _);simp only[nsI,zbu,zgi] at hb;have C:0<yX (arZ l 0 1):=by rw[zE9 hp hq h0];exact y4.2 hb.2
   refine⟨zGX (zLT hp hq h0 hb.1.1) (by rw[h0.1];exact hb.1.2) C,zQS C,λz hz=>?_⟩;rw[zte.1 hz];exact zJB C
 |[s,t],hb=>
  match L,h.1 with
  |[l,k],_=>
   have h0:lay x p y q s l:=h.2 0 (show 0<_ from yle _);have h1:lay x p y q t k:=h.2 1 (show 1<2 from by decide);simp only[nsI,zbu,zgi] at hb;obtain⟨⟨⟨⟨⟨⟨b1,b2⟩,Z⟩,U⟩,O⟩,M⟩,J⟩:=hb;have C:0<yX (arZ l 0 1):=by rw[zE9 hp hq h0];exact y4.2 O
   have D:yX (arZ k 0 1)<0:=by rw[zE9 hp hq h1];exact zSQ.2 M
   refine⟨zZZ (zLT hp hq h0 b1) (zLT hp hq h1 b2) (by rw[h0.1,h1.1];exact Z) (yFB hp hq h0 h1 U) C (yAP hp hq h0 h1 J),?_,λz hz=>?_⟩
   · have H:zAF [l,k] 1=1:=zau C
     show zAF [l,k] 2=1
     unfold zAF;rw[zae (show ¬0<yX (arZ (gl [l,k] 1) 0 1) fromλe=>by have:0<yX (arZ k 0 1):=e;omega),H]
   · rcases zfu.1 hz with rfl|hz
     · exact zJB C
     · rw[zte.1 hz]
       refine zDR λe=>?_;have:arZ k 0 1=0:=e;rw[this,show yX 0=0 from zau I] at D;omega
end
abbrev Dir:=Nat×Bool
def dI:Dir->Nat
  |(2,true)=>0|(2,false)=>1|(1,true)=>2|(1,false)=>0|(_,true)=>1|(_,false)=>2
def dJ:Dir->Nat
  |(2,true)=>1|(2,false)=>0|(1,true)=>0|(1,false)=>2|(_,true)=>2|(_,false)=>1
def dN(d:Dir)(c:Rat):Pt:=(zT).set d.1 (if d.2 then c else -c)
def zWZ(u:B3):Nat->Bool
  |0=>u.1|1=>u.2.1|_=>u.2.2
def bI(x:Bool):Int:=if x then 1 else 0
def pI2(d:Dir)(u:B3):PI:=(bI (zWZ u (dI d)),bI (zWZ u (dJ d)))
variable {a b:Pt}
theorem yHD(u:B3)(i:Nat):(cU a b u).at i=if zWZ u i then b.at i else a.at i:=by
 obtain⟨D,C,u3⟩:=u
 match i with
 |0=>rfl
 |1=>rfl
 |n+2=>rfl
theorem yCE(u:B3)(i:Nat):(cU a b u).at i=a.at i+(b.at i-a.at i)*((bI (zWZ u i):Int):Rat):=by
 rw[yHD];have e0:((0:Int):Rat)=0:=I;have C:((1:Int):Rat)=1:=I;unfold bI
 split
 · rw[C];grind
 · rw[e0];grind
theorem zMN{d:Dir}{c:Rat}(hd:d.1<3)(hc:0<c):axI (dN d c)=dI d/\axJ (dN d c)=dJ d/\¬dN d c=zT:=by
 obtain⟨C,D⟩:=d;have h3:C=0\/C=1\/C=2:=by have:C<3:=hd;omega
 have J:¬dN (C,D) c=zT:=λe=>by
  have h1:=zbi T3.x e;have h2:=zbi T3.y e;have H:=zbi T3.z e
  rcases h3 with rfl|rfl|rfl<;>cases D<;>simp[dN,T3.set] at h1 h2 H<;>grind
 refine⟨?_,?_,J⟩
 · rcases h3 with rfl|rfl|rfl<;>cases D<;>simp[dN,T3.set,axI,dI]<;>grind
 · rcases h3 with rfl|rfl|rfl<;>cases D<;>simp[dN,T3.set,axJ,dJ]<;>grind
def zFP(d:Dir)(us:List B3):Bool:=(us.all λu=>zWZ u d.1==d.2)&&(decide (us.map (pI2 d)=[(0,0),(1,0),(1,1),(0,1)])||decide (us.map (pI2 d)=[(1,0),(1,1),(0,1),(0,0)])||decide (us.map (pI2 d)=[(1,1),(0,1),(0,0),(1,0)])||decide (us.map (pI2 d)=[(0,1),(0,0),(1,0),(1,1)]))
theorem zTT{d:Dir}{c o:Rat}(hd:d.1<3)(hc:0<c)(u:B3):qL (dN d c,o) (cU a b u)=T3.mk (a.at (dI d)+(b.at (dI d)-a.at (dI d))*(((pI2 d u).1:Int):Rat)) (a.at (dJ d)+(b.at (dJ d)-a.at (dJ d))*(((pI2 d u).2:Int):Rat)) (0:Rat):=by
 unfold qL;rw[(zMN hd hc).1,(zMN hd hc).2.1,yCE,yCE];rfl
theorem zJ2{d:Dir}{c o:Rat}(hd:d.1<3)(hc:0<c)(h:∀i,a.at i<b.at i){us:List B3}(ht:zFP d us=true):uG [us.map λu=>qL (dN d c,o) (cU a b u)] 0 1=0/\ouZ [us.map λu=>qL (dN d c,o) (cU a b u)]=1:=by
 unfold zFP at ht;simp only[zbu,zvu,zgi] at ht;refine yJO (x:=a.at (dI d)) (p:=b.at (dI d)-a.at (dI d)) (y:=a.at (dJ d)) (q:=b.at (dJ d)-a.at (dJ d)) (t:=us.map (pI2 d)) (by have:=h (dI d);grind) (by have:=h (dJ d);grind) ?_ ?_
 · rcases ht.2 with((h1|h1)|h1)|h1
   · exact .inl h1
   · exact .inr (.inl h1)
   · exact .inr (.inr (.inl h1))
   · exact .inr (.inr (.inr h1))
 · rw[y0e]
   exact ywe λu _=>zTT hd hc u
theorem zWO{d:Dir}{c:Rat}(hd:d.1<3){u:B3}(hu:zWZ u d.1=d.2):sdZ (dN d c,(if d.2 then c else -c)*(if d.2 then b.at d.1 else a.at d.1)) (cU a b u)=0:=by
 unfold sdZ hgt;have e:=yHD (a:=a) (b:=b) u d.1;rw[hu] at e;obtain⟨C,D⟩:=d;have h3:C=0\/C=1\/C=2:=by have:C<3:=hd;omega
 have h0:zM (dN (C,D) c) (cU a b u)=(if D then c else -c)*(cU a b u).at C:=by
  rcases h3 with rfl|rfl|rfl<;>(simp only[zM,dN,T3.set,T3.at];grind)
 rw[h0,e];refine zau ?_
 show _*_-_*_=(0:Rat)
 grind
abbrev u0:B3:=(false,false,false)
def oH(a b:Pt)(us:List B3)(d:Dir)(f:Fc):Prop:=
 d.1<3/\∃c,0<c/\f.1=(dN d c,(if d.2 then c else -c)*(if d.2 then b.at d.1 else a.at d.1))/\∃i j k l:Nat,f.2.1=[[(i:Int),(j:Int),(k:Int),(l:Int)]]/\(i<us.length/\j<us.length/\k<us.length/\l<us.length)/\zFP d [us.getD i u0,us.getD j u0,us.getD k u0,us.getD l u0]=true
section
variable {us:List B3}{F:List Fc}
theorem yCJ{d:Dir}{f:Nat}(h:oH a b us d (F.getD f zA)):nmP (us.map (cU a b),F,[]) f:=by
 obtain⟨_,c,_,_,i,j,k,l,U,⟨h1,h2,h3,Z⟩,_⟩:=h;intro m O q M
 show 0<=_/\_<(((us.map (cU a b)).length:Nat):Int)
 rw[zde];have D:m<((F.getD f zA).2.1).length:=O;have C:q<(((F.getD f zA).2.1).getD m []).length:=M
 show 0<=(((F.getD f zA).2.1).getD m []).getD q 0/\(((F.getD f zA).2.1).getD m []).getD q 0<_
 rw[U] at D C ⊢;have H:m=0:=by have:m<1:=D;omega
 subst H;have J:q<4:=C;have:q=0\/q=1\/q=2\/q=3:=by omega
 rcases this with rfl|rfl|rfl|rfl
 · show 0<=(i:Int)/\(i:Int)<_;omega
 · show 0<=(j:Int)/\(j:Int)<_;omega
 · show 0<=(k:Int)/\(k:Int)<_;omega
 · show 0<=(l:Int)/\(l:Int)<_;omega
theorem zCJ{d:Dir}{f:Nat}(hf:f<F.length)(h:oH a b us d (F.getD f zA)):∃vs:List B3,zFP d vs=true/\vs.length=4/\xR (us.map (cU a b),F,[]) f=[vs.map (cU a b)]:=by
 have C:=yCJ h;obtain⟨_,c,_,_,i,j,k,l,D,⟨h1,h2,h3,H⟩,ht⟩:=h;refine⟨[us.getD i u0,us.getD j u0,us.getD k u0,us.getD l u0],ht,I,?_⟩;rw[yOK (s:=(us.map (cU a b),F,[])) hf C D]
 show[[gp (us.map (cU a b)) _,gp (us.map (cU a b)) _,gp (us.map (cU a b)) _,gp (us.map (cU a b)) _]]=_
 rw[z1i,z1i,z1i,z1i,zB4 h1,zB4 h2,zB4 h3,zB4 H];rfl
theorem zMM(h:a.x<b.x/\a.y<b.y/\a.z<b.z)(hn:∀i k,k<i->i<us.length->¬us.getD i u0=us.getD k u0)(hu:us.length<=512/\F.length<=256)(hF:∀f,f<F.length->∃d,oH a b us d (F.getD f zA))(hv:∀f,f<F.length->vfP (F.getD f zA).2.1)
    (hva:vaP (wZ (us.map (cU a b),F,[])))(hc:clB (edZ (wZ (us.map (cU a b),F,[])))=true):kC (us.map (cU a b),F,[]):=by
 have ac:∀i,a.at i<b.at i:=λi=>match i with
  |0=>h.1|1=>h.2.1|_+2=>h.2.2
 have Z:(us.map (cU a b)).length=us.length:=zde _;refine zSM (yGN (λe=>?_) λf hf=>?_) (yGK λi k ab hi e=>?_) (yGT (λf hf=>?_) λf hf l hl k hk=>?_) (yGX λf hf=>?_) (yHC hva hc)
 · rcases e with(e|e)|e
   · have e':512<(us.map (cU a b)).length:=e
     omega
   · have e':256<F.length:=e
     omega
   · have e':1024<([]:List En).length:=e
     simp at e'
 · obtain⟨d,hd⟩:=hF f hf
   exact⟨hv f hf,yCJ hd⟩
 · have U:i<us.length:=by rw[<-Z];exact hi
   have e':gp (us.map (cU a b)) i=gp (us.map (cU a b)) k:=e;rw[zB4 U,zB4 zot] at e';exact hn i k ab U (yL9 h.1 h.2.1 h.2.2 e')
 · obtain⟨d,C,c,D,O,_⟩:=hF f hf
   show ¬(F.getD f zA).1.1=zT
   rw[O];exact(zMN C D).2.2
 · obtain⟨d,hd⟩:=hF f hf
   obtain⟨H,ht,h4,M⟩:=zCJ hf hd;obtain⟨C,c,D,O,_⟩:=hd;rw[M] at hl hk ⊢;have aa:l=0:=by have:l<1:=hl;omega
   subst aa;have J:k<(H.map (cU a b)).length:=hk;rw[zde] at J
   show sdZ (F.getD f zA).1 (gp (H.map (cU a b)) k)=0
   rw[O,zB4 J];refine zWO C ?_;unfold zFP at ht;simp only[zbu] at ht;have h9:=zob.1 ht.1 (H.getD k u0) (kR J);exact eq_of_beq h9
 · obtain⟨d,hd⟩:=hF f hf
   obtain⟨H,ht,h4,M⟩:=zCJ hf hd;obtain⟨C,c,D,O,_⟩:=hd;have e:fJ (us.map (cU a b),F,[]) f=[H.map λu=>qL (F.getD f zA).1 (cU a b u)]:=by
    obtain⟨v1,v2,v3,v4,rfl⟩:∃v1 v2 v3 v4,H=[v1,v2,v3,v4]:=by
     match H,h4 with
     |[v1,v2,v3,v4],_=>exact⟨_,_,_,_,rfl⟩
    exact zTR M
   rw[e,O];exact zJ2 C D ac ht
end
instance decLp(x:List Int):Decidable (lpP x):=by unfold lpP;exact inferInstance
instance decVf(L:List (List Int)):Decidable (vfP L):=by unfold vfP;exact inferInstance
instance decVa(F:List (List (List Int))):Decidable (vaP F):=by unfold vaP;exact inferInstance
variable {a b:Pt}
theorem zJC{N M:Pt}{o r:Rat}(h1:N=M)(h2:o=r):(N,o)=(M,r):=by rw[h1,h2]
theorem zTY(h:a.x<b.x/\a.y<b.y/\a.z<b.z):oH a b uB0 (1,false) ((fB0 a b).getD 0 zA)/\oH a b uB0 (0,true) ((fB0 a b).getD 1 zA)/\oH a b uB0 (1,true) ((fB0 a b).getD 2 zA)/\oH a b uB0 (0,false) ((fB0 a b).getD 3 zA)/\oH a b uB0 (2,false) ((fB0 a b).getD 4 zA)/\oH a b uB0 (2,true) ((fB0 a b).getD 5 zA):=by
 obtain⟨hx,hy,hz⟩:=h;refine⟨?_,?_,?_,?_,?_,?_⟩
 · refine⟨by decide,b.x-a.x,by grind,zJC ?_ ?_,0,1,5,4,I,by decide,by decide⟩
   · show T3.mk (a.y-a.y) (-(b.x-a.x)) (0:Rat)=T3.mk 0 (-(b.x-a.x)) 0
     rw[kJ];refine⟨?_,I,I⟩;show a.y-a.y=0;grind
   · show zM (T3.mk (a.y-a.y) (-(b.x-a.x)) (0:Rat)) (T3.mk a.x a.y a.z)= -(b.x-a.x)*a.y
     unfold zM;simp only;grind
 · refine⟨by decide,b.y-a.y,by grind,zJC ?_ ?_,1,2,6,5,I,by decide,by decide⟩
   · show T3.mk (b.y-a.y) (-(b.x-b.x)) (0:Rat)=T3.mk (b.y-a.y) 0 0
     rw[kJ];refine⟨I,?_,I⟩;show -(b.x-b.x)=0;grind
   · show zM (T3.mk (b.y-a.y) (-(b.x-b.x)) (0:Rat)) (T3.mk b.x a.y a.z)=(b.y-a.y)*b.x
     unfold zM;simp only;grind
 · refine⟨by decide,b.x-a.x,by grind,zJC ?_ ?_,2,3,7,6,I,by decide,by decide⟩
   · show T3.mk (b.y-b.y) (-(a.x-b.x)) (0:Rat)=T3.mk 0 (b.x-a.x) 0
     rw[kJ];refine⟨?_,?_,I⟩
     · show b.y-b.y=0;grind
     · show -(a.x-b.x)=b.x-a.x;grind
   · show zM (T3.mk (b.y-b.y) (-(a.x-b.x)) (0:Rat)) (T3.mk b.x b.y a.z)=(b.x-a.x)*b.y
     unfold zM;simp only;grind
 · refine⟨by decide,b.y-a.y,by grind,zJC ?_ ?_,3,0,4,7,I,by decide,by decide⟩
   · show T3.mk (a.y-b.y) (-(a.x-a.x)) (0:Rat)=T3.mk (-(b.y-a.y)) 0 0
     rw[kJ];refine⟨?_,?_,I⟩
     · show a.y-b.y= -(b.y-a.y);grind
     · show -(a.x-a.x)=0;grind
   · show zM (T3.mk (a.y-b.y) (-(a.x-a.x)) (0:Rat)) (T3.mk a.x b.y a.z)= -(b.y-a.y)*a.x
     unfold zM;simp only;grind
 · refine⟨by decide,1,by decide,zJC I ?_,3,2,1,0,I,by decide,by decide⟩
   show -a.z= -1*a.z
   grind
 · refine⟨by decide,1,by decide,zJC I ?_,4,5,6,7,I,by decide,by decide⟩
   show b.z=1*b.z
   grind
theorem zTZ(h:a.x<b.x/\a.y<b.y/\a.z<b.z):∀f,f<(fB0 a b).length->∃d,oH a b uB0 d ((fB0 a b).getD f zA):=by
 intro f hf;have C:f<6:=hf;obtain⟨h0,h1,h2,h3,H,D⟩:=zTY h;have:f=0\/f=1\/f=2\/f=3\/f=4\/f=5:=by omega
 rcases this with rfl|rfl|rfl|rfl|rfl|rfl
 · exact⟨_,h0⟩
 · exact⟨_,h1⟩
 · exact⟨_,h2⟩
 · exact⟨_,h3⟩
 · exact⟨_,H⟩
 · exact⟨_,D⟩
theorem zI8(h:a.x<b.x/\a.y<b.y/\a.z<b.z):kC (pB0 a b,fB0 a b,[]):=by
 have g:∀i,i<uB0.length->∀k,k<i->¬uB0.getD i u0=uB0.getD k u0:=by decide +kernel
 rw[oT];refine zMM h (λi k hk hi=>g i hi k hk) ⟨by decide,show 6<=256 by decide⟩ (zTZ h) (λf hf=>?_) ?_ ?_
 · have C:f<6:=hf
   have:f=0\/f=1\/f=2\/f=3\/f=4\/f=5:=by omega
   rcases this with rfl|rfl|rfl|rfl|rfl|rfl
   · show vfP [[0,1,5,4]];decide +kernel
   · show vfP [[1,2,6,5]];decide +kernel
   · show vfP [[2,3,7,6]];decide +kernel
   · show vfP [[3,0,4,7]];decide +kernel
   · show vfP [[3,2,1,0]];decide +kernel
   · show vfP [[4,5,6,7]];decide +kernel
 · rw[<-oT,dH];decide +kernel
 · rw[<-oT,dH];decide +kernel
variable {a b:Pt}
def ixB(o:List Int)(n:Nat):Nat->List Int
  |0=>List.replicate n (0:Int)
  |i+1=>(ixB o n i).set (o.getD i 0).toNat (i:Int)
theorem zRT{s:Sd}{o:List Int}(h:fX s=o):∀i,zIN s i=ixB o s.1.length i
  |0=>rfl
  |i+1=>by unfold zIN ixB;rw[zRT h i,h]
theorem yAX(h:a.x<b.x/\a.y<b.y/\a.z<b.z):ixZ (pB0 a b,fB0 a b,[])=[0,4,6,2,1,5,7,3]:=by
 have C:=zNS h.1 h.2.1 h.2.2;unfold ixZ;rw[zRT C,C]
 show ixB _ 8 8=_
 decide
def uB1:List B3:=[(false,false,false),(false,false,true),(false,true,false),(false,true,true),(true,false,false),(true,false,true),(true,true,false),(true,true,true)]
theorem zZU(h:a.x<b.x/\a.y<b.y/\a.z<b.z):nrP (pB0 a b,fB0 a b,[])=uB1.map (cU a b):=by
 have C:=zNS h.1 h.2.1 h.2.2;unfold nrP;rw[zau (zI8 h)];unfold zZV;rw[C];rfl
theorem zSY(h:a.x<b.x/\a.y<b.y/\a.z<b.z){us:List B3}{F:List Fc}{f:Nat}(hf:f<F.length){d:Dir}(hd:oH a b us d (F.getD f zA)):zEQ (us.map (cU a b),F,[]) f 0:=by
 have J:∀i,a.at i<b.at i:=λi=>match i with
  |0=>h.1|1=>h.2.1|_+2=>h.2.2
 obtain⟨M,ht,h4,D⟩:=zCJ hf hd;obtain⟨C,c,H,U,_⟩:=hd;obtain⟨v1,v2,v3,v4,rfl⟩:∃v1 v2 v3 v4,M=[v1,v2,v3,v4]:=by
  match M,h4 with
  |[v1,v2,v3,v4],_=>exact⟨_,_,_,_,rfl⟩
 have e:fJ (us.map (cU a b),F,[]) f=[[v1,v2,v3,v4].map λu=>qL (F.getD f zA).1 (cU a b u)]:=zTR D;have O:=(zJ2 (o:=(F.getD f zA).1.2) C H J ht).2;unfold zEQ;rw[e];have e2:(F.getD f zA).1=(dN d c,(F.getD f zA).1.2):=by rw[U]
 rw[e2];refine zdu λZ=>?_;have h0:ouZ [[v1,v2,v3,v4].map λu=>qL (dN d c,(F.getD f zA).1.2) (cU a b u)]=0:=zae Z;rw[h0] at O;exact absurd O zow
theorem yJK{d:Dir}{c r:Rat}(hd:d.1<3)(hc:0<c):scZ (dN d c,(if d.2 then c else -c)*r)=(dN d 1,(if d.2 then 1 else -1)*r):=by
 obtain⟨H,J⟩:=d;have h3:H=0\/H=1\/H=2:=by have:H<3:=hd;omega
 have hs:∀{x:Rat},x≠0->¬yX x=0:=λ{x} hx e=>by unfold yX at e;rw[zae hx] at e;split at e<;>omega
 have hz:yX 0=0:=zau I;have D:c≠0:=by grind
 have C:-c≠0:=by grind
 have U:ivA c*c=1/\ivA (-c)*c=1:=by
  have Z:((1:Int):Rat)=1:=I;have O:¬c.num<0:=Int.not_lt.2 (Rat.num_nonneg.2 (zee hc));have M:(-c).num<0:=yue.1 λe=>by have:=Rat.num_nonneg.1 e;grind
  have a1:dS c=c:=zae O;have a2:dS (-c)=c:=by
   have:dS (-c)= - -c:=zau M;rw[this];grind
  unfold ivA;rw[a1,a2,zae D,Z];grind
 rcases h3 with rfl|rfl|rfl<;>cases J<;>simp[scZ,dN,T3.set,hz,hs D,hs C,scW]<;>grind
abbrev I3:=Int×Int×Int
def aI3(u:I3):Nat->Int
  |0=>u.1|1=>u.2.1|_=>u.2.2
def cP(v u:I3):Pt:=T3.mk ((v.1+u.1:Int):Rat) ((v.2.1+u.2.1:Int):Rat) ((v.2.2+u.2.2:Int):Rat)
def nr3(n:I3):Pt:=T3.mk (n.1:Rat) (n.2.1:Rat) (n.2.2:Rat)
def dt3(n u:I3):Int:=n.1*u.1+n.2.1*u.2.1+n.2.2*u.2.2
abbrev FI:=I3×Int×List (List Int)×List Nat
abbrev SI:=List I3×List FI
abbrev z3:I3:=((0:Int),(0:Int),(0:Int))
abbrev fi0:FI:=(z3,(0:Int),([]:List (List Int)),([]:List Nat))
abbrev g3(P:List I3)(k:Nat):I3:=P.getD k z3
def cPl(v:I3)(f:FI):Pl:=(nr3 f.1,((f.2.1+dt3 f.1 v:Int):Rat))
def zLO(v:I3)(f:FI)(x:Fc):Prop:=(∃a:Int,(0<a/\a<=1000)/\x.1=scW (1/(a:Rat)) (cPl v f))/\x.2=f.2.2
theorem yAY{a:Int}(h:0<a):(0:Rat)<1/(a:Rat):=by
 rw[Rat.div_def];exact vC zow (Rat.inv_pos.2 (yiu.2 h))
theorem zOE{v:I3}{f:FI}{x:Fc}(h:zLO v f x):∃r:Rat,0<r/\x.1=scW r (cPl v f):=by
 obtain⟨a,C,e⟩:=h.1;exact⟨_,yAY C.1,e⟩
def aL(v:I3)(I:SI)(s:Sd):Prop:=s.1=I.1.map (cP v)/\s.2.2=[]/\s.2.1.length=I.2.length/\∀f,f<I.2.length->zLO v (I.2.getD f fi0) (s.2.1.getD f zA)
theorem zUC(v u:I3)(n:Nat):(cP v u).at n=((aI3 v n+aI3 u n:Int):Rat):=by
 match n with
 |0=>rfl
 |1=>rfl
 |_+2=>rfl
theorem zJX{v:I3}{P:List I3}{k:Nat}(hk:k<P.length):gp (P.map (cP v)) k=cP v (g3 P k):=by
 show(P.map (cP v)).getD k _=cP v (P.getD k z3)
 rw[zoa,zoa,zvi,zoc hk];rfl
theorem yE4(v u:I3)(f:FI)(r:Rat):hgt (scW r (cPl v f)) (cP v u)=r*((dt3 f.1 u-f.2.1:Int):Rat):=by
 unfold hgt scW cPl zM nr3 cP dt3;simp only[zne,zwi,zpu];grind
theorem yKD{v u:I3}{f:FI}{r:Rat}(hr:0<r):sdZ (scW r (cPl v f)) (cP v u)=sgI (dt3 f.1 u-f.2.1):=by
 unfold sdZ;rw[yE4,iS hr,mN];rfl
def cT(n:I3):Nat×Nat:=if 0<n.2.2 then(0,1) else if n.2.2<0 then(1,0) else if 0<n.2.1 then(2,0) else if n.2.1<0 then(0,2) else if 0<n.1 then(1,2) else if n.1<0 then(2,1) else(1,2)
theorem zYA{r:Rat}(hr:0<r)(n:Int):0<r*(n:Rat)↔0<n:=by
 constructor
 · intro h
   refine yue.1 λe=>?_;have h1:(n:Rat)<=0:=Rat.intCast_nonpos.2 e;have:=yji h1 (zee hr);grind
 · intro h
   exact vC hr (yiu.2 h)
theorem zYB{r:Rat}(hr:0<r)(n:Int):r*(n:Rat)<0↔n<0:=by
 have:=zYA hr (-n);rw[z2i] at this;constructor
 · intro h
   have:=this.1 zo0;omega
 · intro h
   have:=this.2 zot;grind
theorem zRI{v:I3}{f:FI}{r:Rat}(hr:0<r):axI (scW r (cPl v f)).1=(cT f.1).1/\axJ (scW r (cPl v f)).1=(cT f.1).2:=by
 unfold axI axJ cT scW cPl nr3;simp only[zYA hr,zYB hr]
 repeat' split
 all_goals first|exact⟨I,I⟩|omega
theorem zYC{v:I3}{f:FI}{r:Rat}(hr:0<r)(h:¬f.1=z3):¬(scW r (cPl v f)).1=zT:=λe=>by
 have g:∀n:Int,r*(n:Rat)=0->n=0:=λn e=>by
  rcases zoe.1 e with e|e
  · rw[e] at hr;exact absurd hr zow
  · exact zqu.1 e
 have e1:=g _ (zbi T3.x e);have e2:=g _ (zbi T3.y e);have e3:=g _ (zbi T3.z e);exact h (Prod.ext e1 (Prod.ext e2 e3))
def flI(a:Nat×Nat)(P:List I3)(x:List Int):List PI:=x.map λk=>(aI3 (g3 P k.toNat) a.1,aI3 (g3 P k.toNat) a.2)
def lpB(n:Nat)(x:List Int):Bool:=decide (3<=x.length/\x.length<=64)&&(List.range x.length).all λi=>decide (0<=x.getD i 0/\x.getD i 0<n)&&(List.range i).all λk=>!decide (x.getD i 0=x.getD k 0)
theorem yAK{n:Nat}{x:List Int}(hn:n<=512)(h:lpB n x=true):lpP x/\nmL n x:=by
 unfold lpB at h;rw[zbu,zgi] at h;have g:∀i,i<x.length->(0<=x.getD i 0/\x.getD i 0<n)/\∀k,k<i->¬x.getD i 0=x.getD k 0:=λi hi=>by
  have h1:=zob.1 h.2 i (zog.2 hi);rw[zbu,zgi] at h1;refine⟨h1.1,λk hk=>?_⟩;have h2:=zob.1 h1.2 k (zog.2 hk);rw[zku,zge] at h2;exact h2
 refine⟨⟨h.1,λi hi=>⟨?_,(g i hi).2⟩⟩,λi hi=>(g i hi).1⟩;have:=(g i hi).1;omega
def bd3(u:I3):Bool:=decide ((-1000<=u.1/\u.1<=1000)/\(-1000<=u.2.1/\u.2.1<=1000)/\(-1000<=u.2.2/\u.2.2<=1000))
def faB(P:List I3)(f:FI):Bool:=(bd3 f.1&&decide (-1000<=f.2.1/\f.2.1<=1000))&&(decide (1<=f.2.2.1.length/\f.2.2.1.length<=16)&&f.2.2.1.all (λx=>lpB P.length x&&x.all λk=>decide (dt3 f.1 (g3 P k.toNat)=f.2.1))&&!decide (f.1=z3)&&nsI (f.2.2.1.map (flI (cT f.1) P)))
def dsB(P:List I3):Bool:=(List.range P.length).all λi=>(List.range i).all λk=>!decide (g3 P i=g3 P k)
def chI(I:SI):Bool:=I.1.all bd3&&(decide (I.1.length<=512/\I.2.length<=256)&&I.2.all (faB I.1)&&dsB I.1&&clB (edZ (I.2.map λf=>f.2.2.1)))
theorem oA{α:Type}(d:α){l k:List α}(hl:l.length=k.length)(h:∀i,i<l.length->l.getD i d=k.getD i d):l=k:=by
 refine List.ext_getElem hl λi h1 h2=>?_;have:=h i h1;rw[zoa,zoa,zoc h1,zoc h2] at this;exact this
theorem kX{α β:Type}(g:α->β)(d:α)(e:β){l:List α}{i:Nat}(hi:i<l.length):(l.map g).getD i e=g (l.getD i d):=by
 rw[zoa,zoa,zvi,zoc hi];rfl
section
variable {v:I3}{I:SI}{s:Sd}
theorem zJU(h:aL v I s):wZ s=I.2.map λf=>f.2.2.1:=by
 obtain⟨h1,h2,h3,C⟩:=h;refine oA [] (by rw[tX,zde,h3]) λf hf=>?_;rw[tX,h3] at hf;rw[aW zot,kX (λf:FI=>f.2.2.1) fi0 [] hf,(C f hf).2]
theorem mX{f:Nat}(h:aL v I s)(hb:chI I=true)(hf:f<I.2.length):faB I.1 (I.2.getD f fi0)=true:=by
 unfold chI at hb;replace hb:=(zbu _ _▸hb).2;rw[zbu,zbu,zbu] at hb;exact zob.1 hb.1.1.2 _ (kR hf)
theorem w4(h:aL v I s):s.1.length=I.1.length:=by rw[h.1,zde]
theorem zHP{P:List I3}{f:FI}(h:faB P f=true){l:Nat}(hl:l<f.2.2.1.length):lpB P.length (f.2.2.1.getD l [])=true/\∀k,k<(f.2.2.1.getD l []).length->dt3 f.1 (g3 P ((f.2.2.1.getD l []).getD k 0).toNat)=f.2.1:=by
 unfold faB at h;replace h:=(zbu _ _▸h).2;rw[zbu,zbu,zbu] at h;have h1:=zob.1 h.1.1.2 _ (kR (d:=[]) hl);rw[zbu] at h1;refine⟨h1.1,λk hk=>?_⟩;exact yau (zob.1 h1.2 _ (kR (d:=0) hk))
theorem zZ9{f:Nat}(h:aL v I s)(hb:chI I=true)(hf:f<I.2.length):nmP s f/\vfP (s.2.1.getD f zA).2.1:=by
 have D:=mX h hb hf;have e:(s.2.1.getD f zA).2.1=(I.2.getD f fi0).2.2.1:=zbi Prod.fst (h.2.2.2 f hf).2;have J:I.1.length<=512:=by
  unfold chI at hb;replace hb:=(zbu _ _▸hb).2;rw[zbu,zbu,zbu,zgi] at hb;exact hb.1.1.1.1
 have h1:1<=(I.2.getD f fi0).2.2.1.length/\(I.2.getD f fi0).2.2.1.length<=16:=by
  have C:=D;unfold faB at C;replace C:=(zbu _ _▸C).2;rw[zbu,zbu,zbu,zgi] at C;exact C.1.1.1
 refine⟨λl H=>?_,?_⟩
 · rw[e] at H ⊢
   rw[w4 h];exact(yAK J (zHP D H).1).2
 · rw[e]
   exact⟨h1,λl H=>(yAK J (zHP D H).1).1⟩
theorem zLN{f:Nat}(h:aL v I s)(hb:chI I=true)(hf:f<I.2.length):(xR s f).length=(I.2.getD f fi0).2.2.1.length/\∀l,l<(I.2.getD f fi0).2.2.1.length->(gl (xR s f) l).length=((I.2.getD f fi0).2.2.1.getD l []).length/\∀k,k<((I.2.getD f fi0).2.2.1.getD l []).length->gp (gl (xR s f) l) k=cP v (g3 I.1 (((I.2.getD f fi0).2.2.1.getD l []).getD k 0).toNat):=by
 have e:(s.2.1.getD f zA).2.1=(I.2.getD f fi0).2.2.1:=zbi Prod.fst (h.2.2.2 f hf).2;have D:=(zZ9 h hb hf).1;rw[zR3 (by rw[h.2.2.1];exact hf) D];refine⟨by rw[<-e];exact yY _ _,λl J=>?_⟩;have C:l<(s.2.1.getD f zA).2.1.length:=by rw[e];exact J
 have M:gl (zHW s f (s.2.1.getD f zA).2.1.length) l=zF7 s.1 ((s.2.1.getD f zA).2.1.getD l []) ((s.2.1.getD f zA).2.1.getD l []).length:=uO _ _ C;rw[M,e];refine⟨yY _ _,λk hk=>?_⟩;have H:=D l C k (by rw[e];exact hk);rw[e,w4 h] at H;have O:gp (zF7 s.1 ((I.2.getD f fi0).2.2.1.getD l []) ((I.2.getD f fi0).2.2.1.getD l []).length) k=gp s.1 (((I.2.getD f fi0).2.2.1.getD l []).getD k 0).toNat:=uO _ _ hk;rw[O,h.1,zJX zot]
theorem zS7{f:Nat}(h:aL v I s)(hb:chI I=true)(hf:f<I.2.length):yKQ (aI3 v (cT (I.2.getD f fi0).1).1:Rat) 1 (aI3 v (cT (I.2.getD f fi0).1).2:Rat) 1 ((I.2.getD f fi0).2.2.1.map (flI (cT (I.2.getD f fi0).1) I.1)) (fJ s f):=by
 obtain⟨Z,c2⟩:=zLN h hb hf;obtain⟨r,O,J⟩:=zOE (h.2.2.2 f hf);have D:=zB8 s f;refine⟨by rw[D.1,Z,zde],λl H=>?_⟩;rw[zde] at H;obtain⟨U,c4⟩:=c2 l H;rw[kX (flI (cT (I.2.getD f fi0).1) I.1) [] [] H];have M:(gl (fJ s f) l).length=((I.2.getD f fi0).2.2.1.getD l []).length:=by rw[D.2 l];exact U
 refine⟨by rw[M];exact(zde _).symm,λm hm=>?_⟩;have C:m<((I.2.getD f fi0).2.2.1.getD l []).length:=by
  have:(flI (cT (I.2.getD f fi0).1) I.1 ((I.2.getD f fi0).2.2.1.getD l [])).length=((I.2.getD f fi0).2.2.1.getD l []).length:=zde _;omega
 have e1:gl (fJ s f) l=flA (s.2.1.getD f zA).1 (gl (xR s f) l) (gl (xR s f) l).length:=uO _ _ (by rw[Z];exact H);have e2:gp (flA (s.2.1.getD f zA).1 (gl (xR s f) l) (gl (xR s f) l).length) m=qL (s.2.1.getD f zA).1 (gp (gl (xR s f) l) m):=uO _ _ (by rw[U];exact C);rw[e1,e2,c4 m C,J];unfold qL;rw[(zRI O).1,(zRI O).2,zUC,zUC];have e3:gI (flI (cT (I.2.getD f fi0).1) I.1 ((I.2.getD f fi0).2.2.1.getD l [])) m=(aI3 (g3 I.1 (((I.2.getD f fi0).2.2.1.getD l []).getD m 0).toNat) (cT (I.2.getD f fi0).1).1,aI3 (g3 I.1 (((I.2.getD f fi0).2.2.1.getD l []).getD m 0).toNat) (cT (I.2.getD f fi0).1).2):=by
  unfold gI flI;exact kX (λk:Int=>(aI3 (g3 I.1 k.toNat) (cT (I.2.getD f fi0).1).1,aI3 (g3 I.1 k.toNat) (cT (I.2.getD f fi0).1).2)) 0 (0,0) C
 rw[e3];unfold ag pr;rw[yre,yre,<-zne,<-zne]
 rfl
theorem zG0{f:Nat}(h:aL v I s)(hb:chI I=true)(hf:f<I.2.length):uG (fJ s f) 0 1=0/\ouZ (fJ s f)=1/\∀l,l∈fJ s f->cY l:=by
 have C:=mX h hb hf;unfold faB at C;replace C:=(zbu _ _▸C).2;rw[zbu] at C;exact zOA zow zow (zS7 h hb hf) C.2
theorem yMA{v u w:I3}(h:cP v u=cP v w):u=w:=by
 have H:=zqu.1 (zbi T3.x h);have D:=zqu.1 (zbi T3.y h);have C:=zqu.1 (zbi T3.z h);exact Prod.ext zot (Prod.ext zot zot)
theorem zBV(h:aL v I s)(hb:chI I=true):kC s/\okS s:=by
 have D:=hb;unfold chI at D;replace D:=(zbu _ _▸D).2;rw[zbu,zbu,zbu,zgi] at D;obtain⟨⟨⟨aa,_⟩,U⟩,Z⟩:=D;have ac:=w4 h;have ab:=h.2.2.1;have H:∀f,f<s.2.1.length->nmP s f/\vfP (s.2.1.getD f zA).2.1:=λf hf=>zZ9 h hb zot;have M:vaP (wZ s):=⟨by rw[tX];omega,λf hf=>by rw[tX] at hf;rw[aW hf];exact(H f hf).2⟩;constructor
 · refine zSM (yGN ?_ λf hf=>⟨(H f hf).2,(H f hf).1⟩) (yGK λi k hk hi e=>?_) (yGT (λf hf=>?_) λf hf l hl k hk=>?_) (yGX λf hf=>?_) (yHC M ?_)
   · unfold zPK
     rw[h.2.1]
     show ¬((512<s.1.length\/256<s.2.1.length)\/1024<0)
     omega
   · rw[h.1,zJX zot,zJX zot] at e
     have h1:=zob.1 (zob.1 U i (zog.2 zot)) k (zog.2 hk);rw[zku,zge] at h1;exact h1 (yMA e)
   · obtain⟨r,O,J⟩:=zOE (h.2.2.2 f zot)
     rw[J];refine zYC O λe=>?_;have C:=mX h hb (f:=f) zot;unfold faB at C;replace C:=(zbu _ _▸C).2;rw[zbu,zbu,zku,zge] at C;exact C.1.2 e
   · obtain⟨r,O,J⟩:=zOE (h.2.2.2 f zot)
     obtain⟨c1,c2⟩:=zLN h hb (f:=f) zot;obtain⟨c3,c4⟩:=c2 l zot;rw[c4 k zot,J,yKD O,(zHP (mX h hb (f:=f) zot) (l:=l) zot).2 k zot,yvu]
     rfl
   · exact⟨(zG0 h hb zot).1,(zG0 h hb zot).2.1⟩
   · rw[zJU h];exact Z
 · refine⟨⟨⟨by omega,by omega⟩,by rw[h.2.1];exact zui _⟩,λf hf=>?_,λf hf x hx=>(zG0 h hb zot).2.2 x hx⟩
   have h1:=(H f hf).2;exact⟨h1.1.2,λl hl=>(h1.2 l hl).1.2⟩
end
theorem zS0(u v w:P2):0<orZ u v w↔0<cr u v w:=nM
theorem zZE(u v w:P2):orZ u v w<0↔cr u v w<0:=jI
theorem zT4{a b p:P2}(h:a.2=b.2):¬uU a b p:=λe=>e.1 (by rw[h])
theorem yFY{a b p:P2}(h:a.1=b.1)(hu:a.2<b.2):uU a b p↔(a.2<=p.2/\p.2<b.2)/\p.1<a.1:=by
 have e:cr a b p=(b.2-a.2)*(a.1-p.1):=by unfold cr;rw[<-h];grind
 have hd:0<b.2-a.2:=by grind
 have g:0<cr a b p↔p.1<a.1:=by
  rw[e];constructor
  · intro k
    refine Rat.not_le.1 λC=>?_;have:0<=(b.2-a.2)*(p.1-a.1):=zod (zee hd) zo0;grind
  · intro k
    exact vC hd zo0
 have D:cr a b p<0↔a.1<p.1:=by
  rw[e];constructor
  · intro k
    refine Rat.not_le.1 λC=>?_;have:0<=(b.2-a.2)*(a.1-p.1):=zod (zee hd) zo0;grind
  · intro k
    have:=vC hd (show 0<p.1-a.1 by grind);grind
 unfold uU;rw[zS0,zZE,g,D];constructor
 · rintro⟨h1,h2⟩
   rcases h2 with⟨h3,h4⟩|⟨h3,h4⟩
   · exact⟨⟨h3,Rat.not_le.1 λk=>h1 ⟨λ_=>k,λ_=>h3⟩⟩,h4⟩
   · exact absurd ⟨λ_=>h3,λ_=>by grind⟩ h1
 · rintro⟨⟨h1,h2⟩,h3⟩
   exact⟨λk=>absurd (k.1 h1) (Rat.not_le.2 h2),.inl ⟨h1,h3⟩⟩
theorem yFZ{a b p:P2}(h:a.1=b.1)(hu:b.2<a.2):uU a b p↔(b.2<=p.2/\p.2<a.2)/\p.1<a.1:=by
 have e:cr a b p= -((a.2-b.2)*(a.1-p.1)):=by unfold cr;rw[<-h];grind
 have hd:0<a.2-b.2:=by grind
 have g:cr a b p<0↔p.1<a.1:=by
  rw[e];constructor
  · intro k
    refine Rat.not_le.1 λC=>?_;have:0<=(a.2-b.2)*(p.1-a.1):=zod (zee hd) zo0;grind
  · intro k
    have:=vC hd (show 0<a.1-p.1 by grind);grind
 have D:0<cr a b p↔a.1<p.1:=by
  rw[e];constructor
  · intro k
    refine Rat.not_le.1 λC=>?_;have:0<=(a.2-b.2)*(a.1-p.1):=zod (zee hd) zo0;grind
  · intro k
    have:=vC hd (show 0<p.1-a.1 by grind);grind
 unfold uU;rw[zS0,zZE,g,D];constructor
 · rintro⟨h1,h2⟩
   rcases h2 with⟨h3,h4⟩|⟨h3,h4⟩
   · exact absurd ⟨λ_=>by grind,λ_=>h3⟩ h1
   · exact⟨⟨h3,Rat.not_le.1 λk=>h1 ⟨λ_=>h3,λ_=>k⟩⟩,h4⟩
 · rintro⟨⟨h1,h2⟩,h3⟩
   exact⟨λk=>absurd (k.2 h1) (Rat.not_le.2 h2),.inr ⟨h1,h3⟩⟩
def rcP(x y X Y:Rat):List P2:=[(x,y),(X,y),(X,Y),(x,Y)]
def yJS(l:List Pt)(i j:Nat)(x y X Y:Rat):Prop:=l.length=4/\∃r,r<4/\∀m,m<4->pr (gp l m) i j=(rcP x y X Y).getD ((m+r)%4) (0,0)
variable {x y X Y:Rat}
theorem yNU{a b p:P2}(h:a.2=b.2):onS a b p↔p.2=a.2/\qY a.1 b.1 p.1:=by
 unfold onS;constructor
 · rintro⟨h1,h2,h3⟩
   unfold qY at h2;exact⟨by grind,h1⟩
 · rintro⟨h1,h2⟩
   refine⟨h2,?_,?_⟩
   · unfold qY;grind
   · unfold cr;grind
theorem yNT{a b p:P2}(h:a.1=b.1):onS a b p↔p.1=a.1/\qY a.2 b.2 p.2:=by
 unfold onS;constructor
 · rintro⟨h1,h2,h3⟩
   unfold qY at h1;exact⟨by grind,h2⟩
 · rintro⟨h1,h2⟩
   refine⟨?_,h2,?_⟩
   · unfold qY;grind
   · unfold cr;grind
def bdP(x y X Y:Rat)(p:P2):Prop:=(x<=p.1/\p.1<=X/\y<=p.2/\p.2<=Y)/\¬(x<p.1/\p.1<X/\y<p.2/\p.2<Y)
def zRW(x y X Y:Rat)(p:P2):Prop:=x<p.1/\p.1<X/\y<p.2/\p.2<Y
theorem yAZ{l:List Pt}{i j:Nat}{p:P2}(hx:x<X)(hy:y<Y)(h:yJS l i j x y X Y):kW l p i j=if bdP x y X Y p then 0 else if zRW x y X Y p then 1 else -1:=by
 obtain⟨U,r,hr,hm⟩:=h;have hA:∀m,m<4->vG l i j m=(rcP x y X Y).getD ((m+r)%4) (0,0):=hm;have hB:∀m,m<4->vD l i j m=(rcP x y X Y).getD ((m+1+r)%4) (0,0):=λm h4=>by
  unfold vD;rw[U,hm _ (zcu _ zow)]
  congr 1
  omega
 have M:(∃m,m<l.length/\onS (vG l i j m) (vD l i j m) p)↔bdP x y X Y p:=by
  have O:(∃m,m<l.length/\onS (vG l i j m) (vD l i j m) p)↔(onS (x,y) (X,y) p\/onS (X,y) (X,Y) p\/onS (X,Y) (x,Y) p\/onS (x,Y) (x,y) p):=by
   rw[U];constructor
   · rintro⟨m,h4,C⟩
     rw[hA m h4,hB m h4] at C;have e:(m+1+r)%4=((m+r)%4+1)%4:=by omega
     rw[e] at C;generalize hq:(m+r)%4=q at C;have:q=0\/q=1\/q=2\/q=3:=by omega
     rcases this with rfl|rfl|rfl|rfl
     · exact .inl C
     · exact .inr (.inl C)
     · exact .inr (.inr (.inl C))
     · exact .inr (.inr (.inr C))
   · have g:∀q,q<4->onS ((rcP x y X Y).getD q (0,0)) ((rcP x y X Y).getD ((q+1)%4) (0,0)) p->∃m,m<4/\onS (vG l i j m) (vD l i j m) p:=λq hq C=>by
      refine⟨(q+4-r)%4,zcu _ zow,?_⟩;rw[hA _ (zcu _ zow),hB _ (zcu _ zow),show((q+4-r)%4+r)%4=q by omega,show((q+4-r)%4+1+r)%4=(q+1)%4 by omega];exact C
     rintro(C|C|C|C)
     · exact g 0 zow C
     · exact g 1 zow C
     · exact g 2 zow C
     · exact g 3 zow C
  have o1:onS (x,y) (X,y) p↔p.2=y/\qY x X p.1:=yNU I;have o2:onS (X,y) (X,Y) p↔p.1=X/\qY y Y p.2:=yNT I;have o3:onS (X,Y) (x,Y) p↔p.2=Y/\qY X x p.1:=yNU I;have o4:onS (x,Y) (x,y) p↔p.1=x/\qY Y y p.2:=yNT I;rw[O,o1,o2,o3,o4];unfold qY bdP;constructor
  · rintro(⟨h1,h2⟩|⟨h1,h2⟩|⟨h1,h2⟩|⟨h1,h2⟩)<;>refine⟨⟨?_,?_,?_,?_⟩,?_⟩<;>grind
  · rintro⟨⟨a1,a2,a3,a4⟩,hn⟩
    by_cases e1:p.2=y
    · exact .inl ⟨e1,.inl ⟨a1,a2⟩⟩
    · by_cases e2:p.1=X
      · exact .inr (.inl ⟨e2,.inl ⟨a3,a4⟩⟩)
      · by_cases e3:p.2=Y
        · exact .inr (.inr (.inl ⟨e3,by grind⟩))
        · by_cases e4:p.1=x
          · exact .inr (.inr (.inr ⟨e4,by grind⟩))
          · exact absurd ⟨by grind,by grind,by grind,by grind⟩ hn
 have H:¬bdP x y X Y p->(jN l p i j l.length↔zRW x y X Y p):=by
  intro J;rw[U];have c0:¬uU ((rcP x y X Y).getD 0 (0,0)) ((rcP x y X Y).getD 1 (0,0)) p:=zT4 I;have c1:uU ((rcP x y X Y).getD 1 (0,0)) ((rcP x y X Y).getD 2 (0,0)) p↔(y<=p.2/\p.2<Y)/\p.1<X:=yFY (a:=(X,y)) (b:=(X,Y)) I hy;have c2:¬uU ((rcP x y X Y).getD 2 (0,0)) ((rcP x y X Y).getD 3 (0,0)) p:=zT4 I;have c3:uU ((rcP x y X Y).getD 3 (0,0)) ((rcP x y X Y).getD 0 (0,0)) p↔(y<=p.2/\p.2<Y)/\p.1<x:=yFZ (a:=(x,Y)) (b:=(x,y)) I hy;have Z:zRW x y X Y p↔((y<=p.2/\p.2<Y)/\p.1<X)/\¬((y<=p.2/\p.2<Y)/\p.1<x):=by
   unfold bdP at J;unfold zRW;grind
  rw[Z,<-c1,<-c3];have D:∀n,jN l p i j (n+1)↔(uU (vG l i j n) (vD l i j n) p/\¬jN l p i j n)\/(¬uU (vG l i j n) (vD l i j n) p/\jN l p i j n):=λn=>Iff.rfl;have z:¬jN l p i j 0:=id;rw[D 3,D 2,D 1,D 0,hA 0 zow,hA 1 zow,hA 2 zow,hA 3 zow,hB 0 zow,hB 1 zow,hB 2 zow,hB 3 zow];have:r=0\/r=1\/r=2\/r=3:=by omega
  have aa:uU ((rcP x y X Y).getD 3 (0,0)) ((rcP x y X Y).getD 0 (0,0)) p->uU ((rcP x y X Y).getD 1 (0,0)) ((rcP x y X Y).getD 2 (0,0)) p:=λe=>c1.2 ⟨(c3.1 e).1,by have:=(c3.1 e).2;grind⟩
  rcases this with rfl|rfl|rfl|rfl<;>simp only[Nat.reduceAdd,Nat.reduceMod,c0,c2,z]<;>grind
 unfold kW
 by_cases J:bdP x y X Y p
 · rw[zau (M.2 J),zau J]
 · rw[zae λe=>J (M.1 e),zae J]
   by_cases hi:zRW x y X Y p
   · rw[zau ((H J).2 hi),zau hi]
   · rw[zae λe=>hi ((H J).1 e),zae hi]
def exI(h l2 h2 l3 h3:Rat):Prop:=0<h/\(l2<h/\h<h2)/\l3<h/\h<h3
def dB(h l2 h2 l3 h3:Rat):Prop:=0<h->(l2<=h/\h<=h2)->(l3<=h/\h<=h3)->(l2<h/\h<h2)/\l3<h/\h<h3
def bD(p:Prop):Int:=if p then 1 else 0
theorem lM{p:Prop}(h:p):bD p=1:=zau h
theorem kP{p:Prop}(h:¬p):bD p=0:=zae h
variable {l1 h1 l2 h2 l3 h3:Rat}
theorem yLH(a1:l1<h1)(a2:l2<h2)(a3:l3<h3)(k1:dB h1 l2 h2 l3 h3)(k2:dB h2 l1 h1 l3 h3)(k3:dB h3 l1 h1 l2 h2):
 bD (exI h1 l2 h2 l3 h3)+bD (exI h2 l1 h1 l3 h3)+bD (exI h3 l1 h1 l2 h2)=bD ((0<h1/\0<h2/\0<h3)/\(l1<h2/\l1<h3)/\(l2<h1/\l2<h3)/\l3<h1/\l3<h2):=by
 by_cases hc:(0<h1/\0<h2/\0<h3)/\(l1<h2/\l1<h3)/\(l2<h1/\l2<h3)/\l3<h1/\l3<h2
 · rw[lM hc]
   obtain⟨⟨O,M,J⟩,⟨q1,q2⟩,⟨q3,q4⟩,q5,Z⟩:=hc
   by_cases e1:h1<=h2/\h1<=h3
   · have s:=k1 O ⟨by grind,e1.1⟩ ⟨by grind,e1.2⟩
     have H:exI h1 l2 h2 l3 h3:=⟨O,s⟩;have D:¬exI h2 l1 h1 l3 h3:=λe=>by unfold exI at e;grind
     have C:¬exI h3 l1 h1 l2 h2:=λe=>by unfold exI at e;grind
     rw[lM H,kP D,kP C];rfl
   · by_cases e2:h2<=h1/\h2<=h3
     · have s:=k2 M ⟨by grind,e2.1⟩ ⟨by grind,e2.2⟩
       have H:¬exI h1 l2 h2 l3 h3:=λe=>by unfold exI at e;grind
       have D:exI h2 l1 h1 l3 h3:=⟨M,s⟩;have C:¬exI h3 l1 h1 l2 h2:=λe=>by unfold exI at e;grind
       rw[kP H,lM D,kP C];rfl
     · have U:h3<=h1/\h3<=h2:=by grind
       have s:=k3 J ⟨by grind,U.1⟩ ⟨by grind,U.2⟩;have H:¬exI h1 l2 h2 l3 h3:=λe=>by unfold exI at e;grind
       have D:¬exI h2 l1 h1 l3 h3:=λe=>by unfold exI at e;grind
       have C:exI h3 l1 h1 l2 h2:=⟨J,s⟩;rw[kP H,kP D,lM C];rfl
 · have H:¬exI h1 l2 h2 l3 h3:=λe=>hc (by unfold exI at e;grind)
   have D:¬exI h2 l1 h1 l3 h3:=λe=>hc (by unfold exI at e;grind);have C:¬exI h3 l1 h1 l2 h2:=λe=>hc (by unfold exI at e;grind);rw[kP H,kP D,kP C,kP hc];rfl
def enI(l l2 h2 l3 h3:Rat):Prop:=0<l/\(l2<l/\l<h2)/\l3<l/\l<h3
theorem yLK(a1:l1<h1)(a2:l2<h2)(a3:l3<h3)(k1:dB l1 l2 h2 l3 h3)(k2:dB l2 l1 h1 l3 h3)(k3:dB l3 l1 h1 l2 h2):
 bD (enI l1 l2 h2 l3 h3)+bD (enI l2 l1 h1 l3 h3)+bD (enI l3 l1 h1 l2 h2)=bD ((0<l1\/0<l2\/0<l3)/\(l1<h2/\l1<h3)/\(l2<h1/\l2<h3)/\l3<h1/\l3<h2):=by
 by_cases hc:(0<l1\/0<l2\/0<l3)/\(l1<h2/\l1<h3)/\(l2<h1/\l2<h3)/\l3<h1/\l3<h2
 · rw[lM hc]
   obtain⟨p1,⟨q1,q2⟩,⟨Z,U⟩,O,M⟩:=hc
   by_cases e1:l2<=l1/\l3<=l1
   · have p:0<l1:=by grind
     have s:=k1 p ⟨e1.1,by grind⟩ ⟨e1.2,by grind⟩;have H:enI l1 l2 h2 l3 h3:=⟨p,s⟩;have D:¬enI l2 l1 h1 l3 h3:=λe=>by unfold enI at e;grind
     have C:¬enI l3 l1 h1 l2 h2:=λe=>by unfold enI at e;grind
     rw[lM H,kP D,kP C];rfl
   · by_cases e2:l1<=l2/\l3<=l2
     · have p:0<l2:=by grind
       have s:=k2 p ⟨e2.1,by grind⟩ ⟨e2.2,by grind⟩;have H:¬enI l1 l2 h2 l3 h3:=λe=>by unfold enI at e;grind
       have D:enI l2 l1 h1 l3 h3:=⟨p,s⟩;have C:¬enI l3 l1 h1 l2 h2:=λe=>by unfold enI at e;grind
       rw[kP H,lM D,kP C];rfl
     · have J:l1<=l3/\l2<=l3:=by grind
       have p:0<l3:=by grind
       have s:=k3 p ⟨J.1,by grind⟩ ⟨J.2,by grind⟩;have H:¬enI l1 l2 h2 l3 h3:=λe=>by unfold enI at e;grind
       have D:¬enI l2 l1 h1 l3 h3:=λe=>by unfold enI at e;grind
       have C:enI l3 l1 h1 l2 h2:=⟨p,s⟩;rw[kP H,kP D,lM C];rfl
 · have H:¬enI l1 l2 h2 l3 h3:=λe=>hc (by unfold enI at e;grind)
   have D:¬enI l2 l1 h1 l3 h3:=λe=>hc (by unfold enI at e;grind);have C:¬enI l3 l1 h1 l2 h2:=λe=>hc (by unfold enI at e;grind);rw[kP H,kP D,kP C,kP hc];rfl
theorem yKT(a1:l1<h1)(a2:l2<h2)(a3:l3<h3)(k1:dB h1 l2 h2 l3 h3)(k2:dB h2 l1 h1 l3 h3)(k3:dB h3 l1 h1 l2 h2)(m1:dB l1 l2 h2 l3 h3)(m2:dB l2 l1 h1 l3 h3)(m3:dB l3 l1 h1 l2 h2)
    (h0:l1<=0/\0<=h1->l2<=0/\0<=h2->l3<=0/\0<=h3->(l1<0/\0<h1)/\(l2<0/\0<h2)/\l3<0/\0<h3):
    bD (exI h1 l2 h2 l3 h3)+bD (exI h2 l1 h1 l3 h3)+bD (exI h3 l1 h1 l2 h2)-(bD (enI l1 l2 h2 l3 h3)+bD (enI l2 l1 h1 l3 h3)+bD (enI l3 l1 h1 l2 h2))=bD ((l1<0/\0<h1)/\(l2<0/\0<h2)/\l3<0/\0<h3):=by
 rw[yLH a1 a2 a3 k1 k2 k3,yLK a1 a2 a3 m1 m2 m3]
 by_cases hm:(l1<h2/\l1<h3)/\(l2<h1/\l2<h3)/\l3<h1/\l3<h2
 · by_cases hp:0<h1/\0<h2/\0<h3
   · by_cases C:0<l1\/0<l2\/0<l3
     · have hi:¬((l1<0/\0<h1)/\(l2<0/\0<h2)/\l3<0/\0<h3):=λe=>by grind
       rw[lM ⟨hp,hm⟩,lM ⟨C,hm⟩,kP hi];rfl
     · have hi:=h0 ⟨by grind,by grind⟩ ⟨by grind,by grind⟩ ⟨by grind,by grind⟩
       rw[lM ⟨hp,hm⟩,kP λe=>C e.1,lM hi];rfl
   · have C:¬(0<l1\/0<l2\/0<l3):=λe=>by grind
     have hi:¬((l1<0/\0<h1)/\(l2<0/\0<h2)/\l3<0/\0<h3):=λe=>by grind
     rw[kP λe=>hp e.1,kP λe=>C e.1,kP hi];rfl
 · have hi:¬((l1<0/\0<h1)/\(l2<0/\0<h2)/\l3<0/\0<h3):=λe=>hm zo0
   rw[kP λe=>hm e.2,kP λe=>hm e.2,kP hi];rfl
variable {a b:Pt}
def plD(a b:Pt)(d:Dir):Pl:=(dN d 1,(if d.2 then 1 else -1)*(if d.2 then b.at d.1 else a.at d.1))
theorem aK(h:a.x<b.x/\a.y<b.y/\a.z<b.z){us:List B3}{F:List Fc}{f:Nat}(hf:f<F.length){d:Dir}(hd:oH a b us d (F.getD f zA))(ix:List Int){x:List Int}(hx:(F.getD f zA).2.1=[x]):
 nfF (us.map (cU a b),F,[]) ix f=(plD a b d,[zU8 (wO (λq=>ix.getD (x.getD q 0).toNat 0) x.length)],(F.getD f zA).2.2):=by
 have J:=zSY h hf hd;obtain⟨D,c,H,C,_⟩:=hd;unfold nfF
 show(scZ (F.getD f zA).1,ouL (us.map (cU a b),F,[]) ix f ((F.getD f zA).2.1).length++zAP (us.map (cU a b),F,[]) ix f ((F.getD f zA).2.1).length,(F.getD f zA).2.2)=_
 rw[C,yJK D H,hx];have U:ouL (us.map (cU a b),F,[]) ix f 1=[nfL (us.map (cU a b),F,[]) ix f 0]:=by
  unfold ouL;rw[<-zBB J];rfl
 have O:zAP (us.map (cU a b),F,[]) ix f 1=[]:=zau J
 show(_,ouL _ ix f 1++zAP _ ix f 1,_)=_
 rw[U,O];have M:nfL (us.map (cU a b),F,[]) ix f 0=zU8 (wO (λq=>ix.getD (x.getD q 0).toNat 0) x.length):=by
  unfold nfL nwL
  show zU8 (wO (λq=>ix.getD ((((F.getD f zA).2.1).getD 0 []).getD q 0).toNat 0) (((F.getD f zA).2.1).getD 0 []).length)=_
  rw[hx];rfl
 rw[M];rfl
theorem zZW(h:a.x<b.x/\a.y<b.y/\a.z<b.z)(ix:List Int)(hix:ix=[0,4,6,2,1,5,7,3]):
 nfF (pB0 a b,fB0 a b,[]) ix 0=(plD a b (1,false),[[0,4,5,1]],nmS 0 0)/\nfF (pB0 a b,fB0 a b,[]) ix 1=(plD a b (0,true),[[4,6,7,5]],nmS 0 1)/\nfF (pB0 a b,fB0 a b,[]) ix 2=(plD a b (1,true),[[2,3,7,6]],nmS 0 2)/\
 nfF (pB0 a b,fB0 a b,[]) ix 3=(plD a b (0,false),[[0,1,3,2]],nmS 0 3)/\nfF (pB0 a b,fB0 a b,[]) ix 4=(plD a b (2,false),[[0,2,6,4]],[98,111,116,116,111,109])/\nfF (pB0 a b,fB0 a b,[]) ix 5=(plD a b (2,true),[[1,5,7,3]],[116,111,112]):=by
 subst hix;have g:=zTY h;rw[oT];refine⟨?_,?_,?_,?_,?_,?_⟩
 · rw[aK h (F:=fB0 a b) (f:=0) (show 0<6 by decide) g.1 _ (x:=[0,1,5,4]) I];rfl
 · rw[aK h (F:=fB0 a b) (f:=1) (show 1<6 by decide) g.2.1 _ (x:=[1,2,6,5]) I];rfl
 · rw[aK h (F:=fB0 a b) (f:=2) (show 2<6 by decide) g.2.2.1 _ (x:=[2,3,7,6]) I];rfl
 · rw[aK h (F:=fB0 a b) (f:=3) (show 3<6 by decide) g.2.2.2.1 _ (x:=[3,0,4,7]) I];rfl
 · rw[aK h (F:=fB0 a b) (f:=4) (show 4<6 by decide) g.2.2.2.2.1 _ (x:=[3,2,1,0]) I];rfl
 · rw[aK h (F:=fB0 a b) (f:=5) (show 5<6 by decide) g.2.2.2.2.2 _ (x:=[4,5,6,7]) I];rfl
def lsB:List Nat->List Nat->Bool
  |[],[]=>false
  |[],_::_=>true
  |_::_,[]=>false
  |x::a,y::b=>if x=y then lsB a b else decide (x<y)
theorem yAE:∀a b:List Nat,lsN a b↔lsB a b=true
  |[],[]=>by simp[lsN,lsB]
  |[],_::_=>by simp[lsN,lsB]
  |_::_,[]=>by simp[lsN,lsB]
  |x::a,y::b=>by
   have ih:=yAE a b
   by_cases h:x=y
   · simp[lsN,lsB,h,ih]
   · simp[lsN,lsB,h]
def nsB(nm:Nat->List Nat):Nat->List Nat
  |0=>[]
  |f+1=>dM (nsB nm f) (zEL (λk=>lsB (nm f) (nm ((nsB nm f).getD k 0))) (nsB nm f).length) f
theorem zLI(nm:Nat->List Nat):∀f x,x∈nsB nm f->x<f
  |f+1,x,h=>by
   unfold nsB dM at h
   rcases zli.1 h with h|h
   · have:=zLI nm f x (z2e h);omega
   · rcases zfu.1 h with rfl|h
     · omega
     · have:=zLI nm f x (z6e h);omega
theorem yA2{α β:Type}(g:α->β)(l:List α)(k:Nat)(x:α):dM (l.map g) k (g x)=(dM l k x).map g:=by
 unfold dM;rw[znu,zue,List.map_take,List.map_drop]
theorem zLH{s:Sd}{nm:Nat->List Nat}{n:Nat}(hn:∀i,i<n->(nfF s (ixZ s) i).2.2=nm i)(hd:∀i,i<n->∀k,k<i->¬nm i=nm k):∀f,f<=n->zAJ s f=(nsB nm f).map λi=>nfF s (ixZ s) i
  |0,_=>rfl
  |f+1,hf=>by
   have ih:=zLH hn hd f zot;unfold zAJ nsB;have hb:aR (zRM (nfF s (ixZ s) f) (zAJ s f)) (zAJ s f).length=zEL (λk=>lsB (nm f) (nm ((nsB nm f).getD k 0))) (nsB nm f).length:=by
    rw[ih,zde];refine zCI _ λk hk=>?_;have C:=zLI nm f _ (kR (d:=0) hk);have e:((nsB nm f).map λi=>nfF s (ixZ s) i).getD k zA=nfF s (ixZ s) ((nsB nm f).getD k 0):=by
     rw[zoa,zvi,zoc hk,zoa,zoc hk];rfl
    unfold zRM lsF;rw[e,hn f zot,hn _ zot,zae (hd f zot _ C)];exact yAE _ _
   rw[hb,ih,yA2]
variable {a b:Pt}
def nm0(i:Nat):List Nat:=([[115,48,46,48],[115,48,46,49],[115,48,46,50],[115,48,46,51],[98,111,116,116,111,109],[116,111,112]]:List (List Nat)).getD i []
def fB1(a b:Pt):List Fc:=[(plD a b (2,false),[[0,2,6,4]],[98,111,116,116,111,109]),(plD a b (1,false),[[0,4,5,1]],[115,48,46,48]),(plD a b (0,true),[[4,6,7,5]],[115,48,46,49]),(plD a b (1,true),[[2,3,7,6]],[115,48,46,50]),(plD a b (0,false),[[0,1,3,2]],[115,48,46,51]),(plD a b (2,true),[[1,5,7,3]],[116,111,112])]
theorem zZT(h:a.x<b.x/\a.y<b.y/\a.z<b.z):nrF (pB0 a b,fB0 a b,[])=fB1 a b:=by
 have C:=yAX h;obtain⟨h0,h1,h2,h3,H,D⟩:=zZW h _ C;rw[yJ9 zow] at h0 h1 h2 h3;have J:∀i,i<6->(nfF (pB0 a b,fB0 a b,[]) (ixZ (pB0 a b,fB0 a b,[])) i).2.2=nm0 i:=λi hi=>by
  have:i=0\/i=1\/i=2\/i=3\/i=4\/i=5:=by omega
  rcases this with rfl|rfl|rfl|rfl|rfl|rfl
  · rw[h0];rfl
  · rw[h1];rfl
  · rw[h2];rfl
  · rw[h3];rfl
  · rw[H];rfl
  · rw[D];rfl
 have hd:∀i,i<6->∀k,k<i->¬nm0 i=nm0 k:=by decide
 unfold nrF;rw[zau (zI8 h)]
 show zAJ _ 6=_
 rw[zLH J hd 6 (zbe _),show nsB nm0 6=[4,0,1,2,3,5] by decide];simp only[zue,yje];rw[h0,h1,h2,h3,H,D]
 rfl
variable {a b:Pt}
def fB2(a b:Pt):List Fc:=[(plD a b (2,false),[[0,2,6,4]],[122,48]),(plD a b (1,false),[[0,4,5,1]],[121,48]),(plD a b (0,true),[[4,6,7,5]],[120,49]),(plD a b (1,true),[[2,3,7,6]],[121,49]),(plD a b (0,false),[[0,1,3,2]],[120,48]),(plD a b (2,true),[[1,5,7,3]],[122,49])]
theorem yEO(h:iL a b):prP (blL a b) a.z b.z=uB1.map (cU a b)/\prF (blL a b) a.z b.z=fB1 a b:=by
 have C:=zUE h;have D:=yCO h;rw[(yF8 h).1] at D;unfold prP prF;rw[zau D,zau D,zNK C.1 C.2.1];exact⟨zZU C,zZT C⟩
theorem zUH(h:iL a b):blS a b=(uB1.map (cU a b),fB2 a b,[]):=by
 obtain⟨h1,h2⟩:=yEO h;unfold blS blG;rw[yDK,h1,h2];refine zbi (λz=>(uB1.map (cU a b),z,([]:List En))) ?_;simp only[fB1,fB2,zue,yje,rnF];simp[rnN]
variable {a b:Pt}
theorem zMA:oH a b uB1 (2,false) ((fB2 a b).getD 0 zA)/\oH a b uB1 (1,false) ((fB2 a b).getD 1 zA)/\oH a b uB1 (0,true) ((fB2 a b).getD 2 zA)/\oH a b uB1 (1,true) ((fB2 a b).getD 3 zA)/\oH a b uB1 (0,false) ((fB2 a b).getD 4 zA)/\oH a b uB1 (2,true) ((fB2 a b).getD 5 zA):=
 ⟨⟨by decide,1,by decide,rfl,0,2,6,4,rfl,by decide,by decide⟩,⟨by decide,1,by decide,rfl,0,4,5,1,rfl,by decide,by decide⟩,⟨by decide,1,by decide,rfl,4,6,7,5,rfl,by decide,by decide⟩,⟨by decide,1,by decide,rfl,2,3,7,6,rfl,by decide,by decide⟩,⟨by decide,1,by decide,rfl,0,1,3,2,rfl,by decide,by decide⟩,⟨by decide,1,by decide,rfl,1,5,7,3,rfl,by decide,by decide⟩⟩
theorem zAK:wZ (uB1.map (cU a b),fB2 a b,[])=[[[0,2,6,4]],[[0,4,5,1]],[[4,6,7,5]],[[2,3,7,6]],[[0,1,3,2]],[[1,5,7,3]]]:=rfl
theorem zXV(h:a.x<b.x/\a.y<b.y/\a.z<b.z):kC (uB1.map (cU a b),fB2 a b,[]):=by
 have g:∀i,i<uB1.length->∀k,k<i->¬uB1.getD i u0=uB1.getD k u0:=by decide +kernel
 obtain⟨h0,h1,h2,h3,H,D⟩:=zMA (a:=a) (b:=b);refine zMM h (λi k hk hi=>g i hi k hk) ⟨by decide,show 6<=256 by decide⟩ (λf hf=>?_) (λf hf=>?_) ?_ ?_
 · have C:f<6:=hf
   have:f=0\/f=1\/f=2\/f=3\/f=4\/f=5:=by omega
   rcases this with rfl|rfl|rfl|rfl|rfl|rfl
   · exact⟨_,h0⟩
   · exact⟨_,h1⟩
   · exact⟨_,h2⟩
   · exact⟨_,h3⟩
   · exact⟨_,H⟩
   · exact⟨_,D⟩
 · have C:f<6:=hf
   have:f=0\/f=1\/f=2\/f=3\/f=4\/f=5:=by omega
   rcases this with rfl|rfl|rfl|rfl|rfl|rfl
   · show vfP [[0,2,6,4]];decide +kernel
   · show vfP [[0,4,5,1]];decide +kernel
   · show vfP [[4,6,7,5]];decide +kernel
   · show vfP [[2,3,7,6]];decide +kernel
   · show vfP [[0,1,3,2]];decide +kernel
   · show vfP [[1,5,7,3]];decide +kernel
 · rw[zAK];decide +kernel
 · rw[zAK];decide +kernel
variable {a b:Pt}
theorem zS1(h:a.x<b.x/\a.y<b.y/\a.z<b.z):fX (uB1.map (cU a b),fB2 a b,[])=[0,1,2,3,4,5,6,7]:=by
 rw[zJF h.1 h.2.1 h.2.2,zAK]
 decide +kernel
theorem yFF(h:a.x<b.x/\a.y<b.y/\a.z<b.z):ixZ (uB1.map (cU a b),fB2 a b,[])=[0,1,2,3,4,5,6,7]:=by
 have C:=zS1 h;unfold ixZ;rw[zRT C,C]
 show ixB _ 8 8=_
 decide
def fB3(a b:Pt):List Fc:=[(plD a b (0,false),[[0,1,3,2]],[120,48]),(plD a b (0,true),[[4,6,7,5]],[120,49]),(plD a b (1,false),[[0,4,5,1]],[121,48]),(plD a b (1,true),[[2,3,7,6]],[121,49]),(plD a b (2,false),[[0,2,6,4]],[122,48]),(plD a b (2,true),[[1,5,7,3]],[122,49])]
def nm1(i:Nat):List Nat:=([[122,48],[121,48],[120,49],[121,49],[120,48],[122,49]]:List (List Nat)).getD i []
theorem yEZ(h:a.x<b.x/\a.y<b.y/\a.z<b.z)(ix:List Int)(hix:ix=[0,1,2,3,4,5,6,7]):∀i,i<6->nfF (uB1.map (cU a b),fB2 a b,[]) ix i=(fB2 a b).getD i zA:=by
 subst hix;obtain⟨h0,h1,h2,h3,D,C⟩:=zMA (a:=a) (b:=b);intro i hi;have:i=0\/i=1\/i=2\/i=3\/i=4\/i=5:=by omega
 rcases this with rfl|rfl|rfl|rfl|rfl|rfl
 · rw[aK h (F:=fB2 a b) (f:=0) (show 0<6 by decide) h0 _ (x:=[0,2,6,4]) I];rfl
 · rw[aK h (F:=fB2 a b) (f:=1) (show 1<6 by decide) h1 _ (x:=[0,4,5,1]) I];rfl
 · rw[aK h (F:=fB2 a b) (f:=2) (show 2<6 by decide) h2 _ (x:=[4,6,7,5]) I];rfl
 · rw[aK h (F:=fB2 a b) (f:=3) (show 3<6 by decide) h3 _ (x:=[2,3,7,6]) I];rfl
 · rw[aK h (F:=fB2 a b) (f:=4) (show 4<6 by decide) D _ (x:=[0,1,3,2]) I];rfl
 · rw[aK h (F:=fB2 a b) (f:=5) (show 5<6 by decide) C _ (x:=[1,5,7,3]) I];rfl
theorem zR7(h:iL a b):blP a b=uB1.map (cU a b)/\blF a b=fB3 a b:=by
 have C:=zUE h;obtain⟨_,O,M⟩:=yF8 h;rw[O,M,zUH h];have hs:=zXV C;have H:=zS1 C;have D:=yFF C;refine⟨?_,?_⟩
 · unfold nrP
   rw[zau hs];unfold zZV;rw[H];rfl
 · have hf:=yEZ C _ D
   have J:∀i,i<6->(nfF (uB1.map (cU a b),fB2 a b,[]) (ixZ (uB1.map (cU a b),fB2 a b,[])) i).2.2=nm1 i:=λi hi=>by
    rw[hf i hi];have:i=0\/i=1\/i=2\/i=3\/i=4\/i=5:=by omega
    rcases this with rfl|rfl|rfl|rfl|rfl|rfl<;>rfl
   unfold nrF;rw[zau hs]
   show zAJ _ 6=_
   rw[zLH J zow 6 (zbe _),show nsB nm1 6=[4,2,1,3,0,5] by decide];simp only[zue,yje];rw[hf 0 zow,hf 1 zow,hf 2 zow,hf 3 zow,hf 4 zow,hf 5 zow]
   rfl
variable {a b:Pt}
theorem zNL{P:List Pt}(h:0<yX (arZ P 0 1)):cY P:=zDR λe=>by
 have:arZ P 0 1=0:=e;rw[this] at h;exact absurd h zow
theorem zR6(h:a.x<b.x/\a.y<b.y/\a.z<b.z){us:List B3}{F:List Fc}(hu:us.length<=512/\F.length<=256)(hF:∀f,f<F.length->∃d,oH a b us d (F.getD f zA)):okS (us.map (cU a b),F,[]):=by
 refine⟨⟨⟨?_,?_⟩,zui _⟩,λf hf=>?_,λf hf x hx=>?_⟩
 · show(us.map (cU a b)).length<=1000
   rw[zde];omega
 · show F.length<=1000
   omega
 · obtain⟨d,_,c,_,_,i,j,k,l,O,_⟩:=hF f hf
   show(F.getD f zA).2.1.length<=16/\∀l,l<(F.getD f zA).2.1.length->((F.getD f zA).2.1.getD l []).length<=64
   rw[O];refine⟨show 1<=16 by decide,λm M=>?_⟩;have D:m=0:=by have:m<1:=M;omega
   subst D
   show 4<=64
   decide
 · obtain⟨d,hd⟩:=hF f hf
   have C:=zSY h hf hd;obtain⟨J,ht,U,H⟩:=zCJ hf hd;obtain⟨v1,v2,v3,v4,rfl⟩:∃v1 v2 v3 v4,J=[v1,v2,v3,v4]:=by
    match J,U with
    |[v1,v2,v3,v4],_=>exact⟨_,_,_,_,rfl⟩
   have e:fJ (us.map (cU a b),F,[]) f=[[v1,v2,v3,v4].map λu=>qL (F.getD f zA).1 (cU a b u)]:=zTR H;unfold zEQ at C;rw[e] at C hx;rw[zte.1 hx];exact zNL C
theorem yCM(h:iL a b):blH a b:=by
 have C:=zUE h;refine⟨λx hx=>?_,λ_=>?_,?_⟩
 · have:x=bB a b:=zte.1 hx
   rw[this];exact zNL (yCW C.1 C.2.1)
 · rw[zNK C.1 C.2.1,oT]
   exact zR6 C ⟨by decide,show 6<=256 by decide⟩ (zTZ C)
 · rw[zUH h]
   obtain⟨h0,h1,h2,h3,J,H⟩:=zMA (a:=a) (b:=b);refine zR6 C ⟨by decide,show 6<=256 by decide⟩ λf hf=>?_;have D:f<6:=hf;have:f=0\/f=1\/f=2\/f=3\/f=4\/f=5:=by omega
   rcases this with rfl|rfl|rfl|rfl|rfl|rfl
   · exact⟨_,h0⟩
   · exact⟨_,h1⟩
   · exact⟨_,h2⟩
   · exact⟨_,h3⟩
   · exact⟨_,J⟩
   · exact⟨_,H⟩
def yNY(r:Rat)(n:Int):Prop:=¬((yX r<0\/n<0)\/64<n)
def mrLo(r:Rat)(n:Int):Rat:=if yNY r n then zNH r n else 0
def mrHi(r:Rat)(n:Int):Rat:=if yNY r n then rtHi r n else 0
theorem zAT{a b:Rat}:0<=xU a b↔b<=a:=by unfold xU;grind
abbrev Tri:=T3 Pt
def pnA(s:Sd)(i:Int):Pt:=s.1.getD i.toNat zT
def inR(s:Sd)(i:Int):Prop:=0<=i/\i<s.1.length
def fanT(s:Sd)(l:List Int)(q:Nat):Tri:=T3.mk (pnA s (l.getD 0 0)) (pnA s (l.getD (q+1) 0)) (pnA s (l.getD (q+2) 0))
def fanL(s:Sd)(l:List Int):Nat->List Tri:=wO (fanT s l)
def yOD(s:Sd)(ls:List (List Int)):Nat->List Tri:=gM λi=>fanL s (ls.getD i []) ((ls.getD i []).length-2)
def yMR(s:Sd)(F:List Fc):Nat->List Tri:=gM λf=>yOD s (F.getD f zA).2.1 (F.getD f zA).2.1.length
def smT(t:Tri):Pt:=uC (uC t.x t.y) t.z
def scT(q:Rat)(p:Pt):Pt:=T3.mk (q*p.x) (q*p.y) (q*p.z)
def sumD(l:List Tri):Rat:=l.foldl (λa t=>a+yH t.x t.y t.z) 0
def sumC(l:List Tri):Pt:=l.foldl (λa t=>uC a (scT (yH t.x t.y t.z) (smT t))) zT
def sumV(l:List Tri):Pt:=l.foldl (λa t=>uC a (yC (yZ t.y t.x) (yZ t.z t.x))) zT
def yDG(s:Sd):Rat:=sumD (yMR s s.2.1 s.2.1.length)
def cenS(s:Sd):Pt:=sumC (yMR s s.2.1 s.2.1.length)
def arV(s:Sd)(f:Fc):Pt:=scT (1/2) (sumV (yOD s f.2.1 f.2.1.length))
def lqP(k:Nat)(p:Pt):Prop:=lq p.x<=k/\lq p.y<=k/\lq p.z<=k
theorem yJP{h:Mem}{cs:List Go.Value}{a b:Pt}{k l:Nat}(r:(rpT (rpQ k)).R h cs a)(e:a=b)(hl:lqP l b):(rpT (rpQ l)).R h cs b:=by
 subst e;obtain⟨x,_,rfl,⟨H,_⟩,y,z,rfl,⟨D,_⟩,⟨C,_⟩⟩:=r;exact⟨x,_,I,⟨H,hl.1⟩,y,z,I,⟨D,hl.2.1⟩,⟨C,hl.2.2⟩⟩
def fcOk(s:Sd)(f:Fc):Prop:=(∀u v,u<f.2.1.length->v<(f.2.1.getD u []).length->inR s ((f.2.1.getD u []).getD v 0))/\(∀u,u<f.2.1.length->(f.2.1.getD u []).length<=1000)/\f.2.1.length<=1000
def fsOk(s:Sd)(F:List Fc):Prop:=(∀i,i<F.length->fcOk s (F.getD i zA))/\F.length<=1000/\(yMR s F F.length).length<=1000
def cnS(s:Sd):Pt:=if((4:Int):Rat)*yDG s=0 then zT else scT (((1:Int):Rat)/(((4:Int):Rat)*yDG s)) (cenS s)
def cnO(s:Sd):Prop:=¬((4:Int):Rat)*yDG s=0
def arS(s:Sd)(d:Int):Nat->Rat×Rat
  |0=>(0,0)
  |i+1=>((arS s d i).1+mrLo (zM (arV s (s.2.1.getD i zA)) (arV s (s.2.1.getD i zA))) d,(arS s d i).2+mrHi (zM (arV s (s.2.1.getD i zA)) (arV s (s.2.1.getD i zA))) d)
def arOk(s:Sd):Prop:=∀i,i<s.2.1.length->lq (zM (arV s (s.2.1.getD i zA)) (arV s (s.2.1.getD i zA)))<=200
def pI(a b c:Int):Pt:=T3.mk (a:Rat) (b:Rat) (c:Rat)
def bkS(a b:Pt):Sd:=(blP a b,blF a b,[])
def lgS(s:Sd):Prop:=∀f,f<s.2.1.length->(s.2.1.getD f zA).2.1.length<=10000/\∀l,l<(s.2.1.getD f zA).2.1.length->((s.2.1.getD f zA).2.1.getD l []).length<=10000
def msOk(s:Sd):Prop:=(nmA s/\lgS s)/\fsOk s s.2.1/\arOk s
structure SaneF:Prop where
 h:iL (pI 0 0 0) (pI 2 2 2)->blH (pI 0 0 0) (pI 2 2 2)
 ok:msOk (bkS (pI 0 0 0) (pI 2 2 2))
 vol:yDG (bkS (pI 0 0 0) (pI 2 2 2))/((6:Int):Rat)=((8:Int):Rat)
 cen:cnS (bkS (pI 0 0 0) (pI 2 2 2))=pI 1 1 1/\cnO (bkS (pI 0 0 0) (pI 2 2 2))
 area:arS (bkS (pI 0 0 0) (pI 2 2 2)) 0 (bkS (pI 0 0 0) (pI 2 2 2)).2.1.length=(((24:Int):Rat),((24:Int):Rat))
variable {a b:Pt}
def bxS(a b:Pt):Sd:=(uB1.map (cU a b),fB3 a b,[])
theorem zUF(h:iL a b):bkS a b=bxS a b:=by
 obtain⟨h1,h2⟩:=zR7 h;unfold bkS bxS;rw[h1,h2]
def whF(s:Sd)(f:Nat)(q:Pt):Int:=whZ (fJ s f) (pr (qL (s.2.1.getD f zA).1 q) 0 1) 0 1
def cnF(s:Sd)(d:Pt)(f:Nat):Rat:=zM (s.2.1.getD f zA).1.1 d
def hnF(s:Sd)(p:Pt)(f:Nat):Rat:=(s.2.1.getD f zA).1.2-zM (s.2.1.getD f zA).1.1 p
def pW(p d:Pt)(t:Rat):Pt:=uC p (scT t d)
def skP(s:Sd)(p d:Pt)(f:Nat):Prop:=yX (cnF s d f)*yX (hnF s p f)<=0
def crE(s:Sd)(p d:Pt)(f:Nat):Int:=if skP s p d f then 0 else if whF s f (pW p d (hnF s p f/cnF s d f))=1 then(if 0<cnF s d f then 1 else -1) else 0
def crS(s:Sd)(p d:Pt):Nat->Int
  |0=>0
  |n+1=>crS s p d n+crE s p d n
theorem aJ{c h:Rat}:yX c*yX h<=0↔¬((0<c/\0<h)\/(c<0/\h<0)):=by
 have r1:=xK c;have r2:=xK h;have M:=nM (q:=c);have J:=jI (q:=c);have H:=nM (q:=h);have D:=jI (q:=h);have C:yX c= -1\/yX c=0\/yX c=1:=by omega
 have c2:yX h= -1\/yX h=0\/yX h=1:=by omega
 rw[<-M,<-J,<-H,<-D]
 rcases C with e1|e1|e1<;>rcases c2 with e2|e2|e2<;>rw[e1,e2]<;>simp
theorem zWF(l:List Pt)(p:P2)(i j:Nat):kW l p i j=0\/kW l p i j=1\/kW l p i j= -1:=by
 unfold kW
 split
 · exact .inl I
 · split
   · exact .inr (.inl I)
   · exact .inr (.inr I)
theorem yHR(l:List Pt)(p:P2)(i j:Nat):whZ [l] p i j=kW l p i j:=by
 have e:∀m,m<[l].length->[l].getD m []=l:=λm C=>by
  have:m=0:=by have:m<1:=C;omega
  subst this;rfl
 unfold whZ
 rcases zWF l p i j with h|h|h
 · rw[zau ⟨0,yle _,h⟩,h]
 · rw[zae (λ⟨m,C,hz⟩=>by rw[e m C,h] at hz;exact absurd hz zow)]
   show(if kW l p i j=1 then _ else _)=_
   rw[zau h,h];rfl
 · rw[zae (λ⟨m,C,hz⟩=>by rw[e m C,h] at hz;exact absurd hz zow)]
   show(if kW l p i j=1 then _ else _)=_
   rw[zae (by rw[h];decide),h];rfl
section
variable {a b:Pt}
def sI(a b q:Pt)(v:Nat):Prop:=a.at v<q.at v/\q.at v<b.at v
def kI(a b q:Pt)(v:Nat):Prop:=a.at v<=q.at v/\q.at v<=b.at v
theorem yJR{d:Dir}{c o:Rat}(hd:d.1<3)(hc:0<c){vs:List B3}(h4:vs.length=4)(ht:zFP d vs=true):
 yJS (vs.map λu=>qL (dN d c,o) (cU a b u)) 0 1 (a.at (dI d)) (a.at (dJ d)) (b.at (dI d)) (b.at (dJ d)):=by
 have e0:∀x y:Rat,x+(y-x)*((0:Int):Rat)=x:=λx y=>by have:((0:Int):Rat)=0:=rfl;rw[this];grind
 have D:∀x y:Rat,x+(y-x)*((1:Int):Rat)=y:=λx y=>by have:((1:Int):Rat)=1:=rfl;rw[this];grind
 obtain⟨M,v1,v2,v3,rfl⟩:∃M v1 v2 v3,vs=[M,v1,v2,v3]:=by
  match vs,h4 with
  |[_,_,_,_],_=>exact⟨_,_,_,_,rfl⟩
 unfold zFP at ht;simp only[zbu,zvu,zgi,zue,yje,List.cons.injEq,and_true] at ht;have C:∀u:B3,pr (qL (dN d c,o) (cU a b u)) 0 1=(a.at (dI d)+(b.at (dI d)-a.at (dI d))*(((pI2 d u).1:Int):Rat),a.at (dJ d)+(b.at (dJ d)-a.at (dJ d))*(((pI2 d u).2:Int):Rat)):=λu=>by
  rw[zTT hd hc];rfl
 have H:∀m:Nat,m<4->m=0\/m=1\/m=2\/m=3:=λm h=>by omega
 refine⟨I,?_⟩
 rcases ht.2 with((⟨q0,q1,q2,q3⟩|⟨q0,q1,q2,q3⟩)|⟨q0,q1,q2,q3⟩)|⟨q0,q1,q2,q3⟩
 · refine⟨0,by decide,λm J=>?_⟩
   rcases H m J with rfl|rfl|rfl|rfl
   · refine(C M).trans ?_;rw[q0];simp only[e0,D];rfl
   · refine(C v1).trans ?_;rw[q1];simp only[e0,D];rfl
   · refine(C v2).trans ?_;rw[q2];simp only[e0,D];rfl
   · refine(C v3).trans ?_;rw[q3];simp only[e0,D];rfl
 · refine⟨1,by decide,λm J=>?_⟩
   rcases H m J with rfl|rfl|rfl|rfl
   · refine(C M).trans ?_;rw[q0];simp only[e0,D];rfl
   · refine(C v1).trans ?_;rw[q1];simp only[e0,D];rfl
   · refine(C v2).trans ?_;rw[q2];simp only[e0,D];rfl
   · refine(C v3).trans ?_;rw[q3];simp only[e0,D];rfl
 · refine⟨2,by decide,λm J=>?_⟩
   rcases H m J with rfl|rfl|rfl|rfl
   · refine(C M).trans ?_;rw[q0];simp only[e0,D];rfl
   · refine(C v1).trans ?_;rw[q1];simp only[e0,D];rfl
   · refine(C v2).trans ?_;rw[q2];simp only[e0,D];rfl
   · refine(C v3).trans ?_;rw[q3];simp only[e0,D];rfl
 · refine⟨3,by decide,λm J=>?_⟩
   rcases H m J with rfl|rfl|rfl|rfl
   · refine(C M).trans ?_;rw[q0];simp only[e0,D];rfl
   · refine(C v1).trans ?_;rw[q1];simp only[e0,D];rfl
   · refine(C v2).trans ?_;rw[q2];simp only[e0,D];rfl
   · refine(C v3).trans ?_;rw[q3];simp only[e0,D];rfl
def gN(f:Nat):Dir:=(f/2,f%2==1)
theorem w8{f:Nat}(hf:f<6):oH a b uB1 (gN f) ((fB3 a b).getD f zA)/\((fB3 a b).getD f zA).1=plD a b (gN f):=by
 have:f=0\/f=1\/f=2\/f=3\/f=4\/f=5:=by omega
 have h1:(0:Rat)<1:=by decide
 rcases this with rfl|rfl|rfl|rfl|rfl|rfl
 · exact⟨⟨by decide,1,h1,I,0,1,3,2,I,⟨by decide,by decide,by decide,by decide⟩,by decide⟩,I⟩
 · exact⟨⟨by decide,1,h1,I,4,6,7,5,I,⟨by decide,by decide,by decide,by decide⟩,by decide⟩,I⟩
 · exact⟨⟨by decide,1,h1,I,0,4,5,1,I,⟨by decide,by decide,by decide,by decide⟩,by decide⟩,I⟩
 · exact⟨⟨by decide,1,h1,I,2,3,7,6,I,⟨by decide,by decide,by decide,by decide⟩,by decide⟩,I⟩
 · exact⟨⟨by decide,1,h1,I,0,2,6,4,I,⟨by decide,by decide,by decide,by decide⟩,by decide⟩,I⟩
 · exact⟨⟨by decide,1,h1,I,1,5,7,3,I,⟨by decide,by decide,by decide,by decide⟩,by decide⟩,I⟩
theorem yFP{f:Nat}(hf:f<6):(gN f).1<3:=by show f/2<3;omega
theorem yGH(h:∀i,a.at i<b.at i){f:Nat}(hf:f<6)(q:Pt):
 whF (bxS a b) f q=if(kI a b q (dI (gN f))/\kI a b q (dJ (gN f)))/\¬(sI a b q (dI (gN f))/\sI a b q (dJ (gN f))) then 0 else if sI a b q (dI (gN f))/\sI a b q (dJ (gN f)) then 1 else -1:=by
 obtain⟨hb,M⟩:=w8 (a:=a) (b:=b) hf;obtain⟨vs,ht,h4,aa⟩:=zCJ (F:=fB3 a b) hf hb;obtain⟨v1,v2,v3,v4,rfl⟩:∃v1 v2 v3 v4,vs=[v1,v2,v3,v4]:=by
  match vs,h4 with
  |[_,_,_,_],_=>exact⟨_,_,_,_,rfl⟩
 have e:fJ (bxS a b) f=[[v1,v2,v3,v4].map λu=>qL (plD a b (gN f)) (cU a b u)]:=by
  have:=zTR (s:=bxS a b) (f:=f) aa;rw[this]
  show[[qL ((fB3 a b).getD f zA).1 _,qL ((fB3 a b).getD f zA).1 _,qL ((fB3 a b).getD f zA).1 _,qL ((fB3 a b).getD f zA).1 _]]=_
  rw[M];rfl
 have hd:=yFP hf;have h1:(0:Rat)<1:=by decide
 have O:=zMN (d:=gN f) hd h1;have hq:pr (qL ((bxS a b).2.1.getD f zA).1 q) 0 1=(q.at (dI (gN f)),q.at (dJ (gN f))):=by
  show pr (qL ((fB3 a b).getD f zA).1 q) 0 1=_
  rw[M];unfold qL plD;rw[O.1,O.2.1];rfl
 have U:yJS ([v1,v2,v3,v4].map λu=>qL (plD a b (gN f)) (cU a b u)) 0 1 (a.at (dI (gN f))) (a.at (dJ (gN f))) (b.at (dI (gN f))) (b.at (dJ (gN f))):=yJR hd h1 h4 ht;unfold whF;rw[e,hq,yHR,yAZ (h _) (h _) U];have g1:bdP (a.at (dI (gN f))) (a.at (dJ (gN f))) (b.at (dI (gN f))) (b.at (dJ (gN f))) (q.at (dI (gN f)),q.at (dJ (gN f)))↔(kI a b q (dI (gN f))/\kI a b q (dJ (gN f)))/\¬(sI a b q (dI (gN f))/\sI a b q (dJ (gN f))):=by
  unfold bdP kI sI;constructor
  · rintro⟨⟨J,H,D,C⟩,Z⟩
    exact⟨⟨⟨J,H⟩,D,C⟩,λe=>Z ⟨e.1.1,e.1.2,e.2.1,e.2.2⟩⟩
  · rintro⟨⟨⟨J,H⟩,D,C⟩,Z⟩
    exact⟨⟨J,H,D,C⟩,λe=>Z ⟨⟨e.1,e.2.1⟩,e.2.2.1,e.2.2.2⟩⟩
 have g2:zRW (a.at (dI (gN f))) (a.at (dJ (gN f))) (b.at (dI (gN f))) (b.at (dJ (gN f))) (q.at (dI (gN f)),q.at (dJ (gN f)))↔sI a b q (dI (gN f))/\sI a b q (dJ (gN f)):=by
  unfold zRW sI;constructor
  · rintro⟨J,H,D,C⟩
    exact⟨⟨J,H⟩,D,C⟩
  · rintro⟨⟨J,H⟩,D,C⟩
    exact⟨J,H,D,C⟩
 by_cases k1:(kI a b q (dI (gN f))/\kI a b q (dJ (gN f)))/\¬(sI a b q (dI (gN f))/\sI a b q (dJ (gN f)))
 · rw[zau (g1.2 k1),zau k1]
 · rw[zae λe=>k1 (g1.1 e),zae k1]
   by_cases k2:sI a b q (dI (gN f))/\sI a b q (dJ (gN f))
   · rw[zau (g2.2 k2),zau k2]
   · rw[zae λe=>k2 (g2.1 e),zae k2]
end
def nG(p A B v:Pt):Prop:=if yC (yZ A p) (yZ B p)=zT then yC (yZ B A) v=zT else yH (yZ A p) (yZ B p) v=0
def vK(k:Int):Pt:=T3.mk ((1:Int):Rat) (k:Rat) ((k*k:Int):Rat)
theorem zJ4(a b:Pt):yC a b=zT↔yC b a=zT:=by
 unfold yC;rw[kJ,kJ];constructor<;>rintro⟨h1,h2,h3⟩<;>simp only at h1 h2 h3 ⊢<;>exact⟨by grind,by grind,by grind⟩
theorem zOU{p A B v:Pt}(h:nG p A B v):nG p B A v:=by
 unfold nG at *
 by_cases hc:yC (yZ A p) (yZ B p)=zT
 · rw[zau hc] at h
   rw[zau ((zJ4 _ _).1 hc)];unfold yC yZ at *;rw[kJ] at *;obtain⟨h1,h2,h3⟩:=h;simp only at h1 h2 h3 ⊢;exact⟨by grind,by grind,by grind⟩
 · rw[zae hc] at h
   rw[zae λe=>hc ((zJ4 _ _).2 e)];unfold yH zM yC yZ at *;simp only at h ⊢;grind
theorem zQA{j k:Nat}(h:j≠k):((j:Int):Rat)≠((k:Int):Rat):=λe=>h (by have:=zqu.1 e;omega)
theorem yG3{p A B:Pt}(hAB:A≠B){i j k:Nat}(h1:i≠j)(h2:i≠k)(h3:j≠k)(hi:nG p A B (vK i))(hj:nG p A B (vK j))(hk:nG p A B (vK k)):False:=by
 have D:=zQA h1;have e2:=zQA h2;have e3:=zQA h3;have J:((1:Int):Rat)=1:=I;have H:∀n:Nat,((((n:Int)*(n:Int):Int)):Rat)=((n:Int):Rat)*((n:Int):Rat):=λn=>zpu _ _;unfold nG at *
 by_cases hc:yC (yZ A p) (yZ B p)=zT
 · rw[zau hc] at hi hj
   refine hAB ?_;unfold vK at hi hj;rw[H,J] at hi hj;generalize ((i:Int):Rat)=x at *;generalize ((j:Int):Rat)=y at *;unfold yC yZ at hi hj;rw[kJ] at hi hj ⊢;obtain⟨a1,O,M⟩:=hi;obtain⟨b1,b2,b3⟩:=hj;simp only at a1 O M b1 b2 b3;have g:(B.x-A.x)*(x-y)=0:=by grind
   have C:B.x-A.x=0:=by
    rcases zoe.1 g with g|g
    · exact g
    · exact absurd zo0 D
   rw[C] at O M;exact⟨by grind,by grind,by grind⟩
 · rw[zae hc] at hi hj hk
   refine hc ?_;unfold vK at hi hj hk;rw[H,J] at hi hj hk;generalize ((i:Int):Rat)=x at *;generalize ((j:Int):Rat)=y at *;generalize ((k:Int):Rat)=z at *;have e:∀t:Rat,yH (yZ A p) (yZ B p) (T3.mk 1 t (t*t))=(yC (yZ A p) (yZ B p)).x+(yC (yZ A p) (yZ B p)).y*t+(yC (yZ A p) (yZ B p)).z*(t*t):=λt=>by
    unfold yH zM yC;simp only;grind
   rw[e] at hi hj hk;generalize yC (yZ A p) (yZ B p)=n at *;have C:(x-y)*(n.y+n.z*(x+y))=0:=by grind
   have Z:(x-z)*(n.y+n.z*(x+z))=0:=by grind
   have m1:n.y+n.z*(x+y)=0:=by
    rcases zoe.1 C with g|g
    · exact absurd zo0 D
    · exact g
   have m2:n.y+n.z*(x+z)=0:=by
    rcases zoe.1 Z with g|g
    · exact absurd zo0 e2
    · exact g
   have g3:n.z*(y-z)=0:=by grind
   have U:n.z=0:=by
    rcases zoe.1 g3 with g|g
    · exact g
    · exact absurd zo0 e3
   rw[kJ];exact⟨by grind,by grind,U⟩
theorem zEK{α:Type}(q:α->Bool):∀l:List α,(l.filter q).length+(l.filter λx=>!q x).length=l.length
  |[]=>rfl
  |x::l=>by
   have ih:=zEK q l;rw[List.filter_cons,List.filter_cons]
   cases h:q x<;>simp<;>omega
theorem yH7{q:Nat->Prop}{l:List Nat}(hn:l.Nodup)(hq:∀x,x∈l->q x)(h:∀i j k,i≠j->i≠k->j≠k->q i->q j->q k->False):l.length<=2:=by
 match l,hn with
 |[],_=>simp
 |[_],_=>simp
 |[_,_],_=>simp
 |a::b::c::r,hn=>
  simp only[List.nodup_cons,zfu,not_or] at hn;exact(h a b c hn.1.1 hn.1.2.1 hn.2.1.1 (hq a zo2) (hq b zo2) (hq c zo2)).elim
theorem zQJ{α:Type}(bad:α->Nat->Prop):∀(E:List α) (K:List Nat),K.Nodup->2*E.length<K.length->(∀e,e∈E->∀i j k,i≠j->i≠k->j≠k->bad e i->bad e j->bad e k->False)->∃k,k∈K/\∀e,e∈E->¬bad e k
  |[],K,_,hl,_=>by
   match K,hl with
   |k::K,_=>exact⟨k,by simp,λe he=>by cases he⟩
  |e::E,K,hn,hl,h3=>by
   have hb:=zEK (λk=>decide (bad e k)) K;have h2:(K.filter λk=>decide (bad e k)).length<=2:=yH7 (q:=bad e) (hn.filter _) (λx hx=>by simpa using(z7u.1 hx).2) (h3 e (.head _));rw[lC] at hl;obtain⟨k,hk,hg⟩:=zQJ bad E (K.filter λk=>!decide (bad e k)) (hn.filter _) zot λx hx=>h3 x (.tail _ hx);have hm:=z7u.1 hk;refine⟨k,hm.1,λx hx=>?_⟩
   rcases zfu.1 hx with rfl|hx
   · simpa using hm.2
   · exact hg x hx
theorem yAN{q:Nat->Prop}:∀n,q n->∃k,k<=n/\q k/\∀j,j<k->¬q j:=by
 intro n
 induction n using Nat.strongRecOn with
 |_ n ih=>
  intro hn
  by_cases h:∃j,j<n/\q j
  · obtain⟨j,hj,hq⟩:=h
    obtain⟨k,h1,h2,h3⟩:=ih j hj hq;exact⟨k,by omega,h2,h3⟩
  · exact⟨n,zbe n,hn,λj hj hq=>h ⟨j,hj,hq⟩⟩
theorem zHA{q:Nat->Prop}(h:∃n,q n):∃k,q k/\∀j,j<k->¬q j:=by
 obtain⟨n,C⟩:=h;obtain⟨k,_,h2⟩:=yAN n C;exact⟨k,h2⟩
def dL(q:Nat->Prop):Nat:=if h:∃n,q n then Classical.choose (zHA h) else 0
theorem zAM{q:Nat->Prop}{n:Nat}(h:q n):dL q<=n/\q (dL q)/\∀j,j<dL q->¬q j:=by
 have D:∃n,q n:=⟨n,h⟩;have hs:=Classical.choose_spec (zHA D);have e:dL q=Classical.choose (zHA D):=dif_pos D;rw[e];exact⟨zye.1 λC=>hs.2 n C h,hs.1,hs.2⟩
theorem zTS{pl:Pl}{l:List Pt}{m:Nat}(h:m<l.length):gp (flA pl l l.length) m=qL pl (gp l m):=uO (λi=>qL pl (gp l i)) (T3.mk (0:Rat) 0 0) h
theorem yBO(pl:Pl)(l:List Pt)(p:Pt):kW (flA pl l l.length) (pr (qL pl p) 0 1) 0 1=kW l (pr p (axI pl.1) (axJ pl.1)) (axI pl.1) (axJ pl.1):=by
 have hl:(flA pl l l.length).length=l.length:=yY _ _;have eA:∀m,m<l.length->vG (flA pl l l.length) 0 1 m=vG l (axI pl.1) (axJ pl.1) m:=λm h=>by
  unfold vG;rw[zTS h];rfl
 have eB:∀m,m<l.length->vD (flA pl l l.length) 0 1 m=vD l (axI pl.1) (axJ pl.1) m:=λm h=>by
  unfold vD;rw[hl,zTS (zcu _ zot)];rfl
 have eo:∀m,m<=l.length->jN (flA pl l l.length) (pr (qL pl p) 0 1) 0 1 m=jN l (pr p (axI pl.1) (axJ pl.1)) (axI pl.1) (axJ pl.1) m:=by
  intro m
  induction m with
  |zero=>intro _;rfl
  |succ m ih=>
   intro h
   show((uU _ _ _/\¬jN _ _ _ _ m)\/(¬uU _ _ _/\jN _ _ _ _ m))=((uU _ _ _/\¬jN _ _ _ _ m)\/(¬uU _ _ _/\jN _ _ _ _ m))
   rw[ih zot,eA m zot,eB m zot];rfl
 have ee:(∃m,m<(flA pl l l.length).length/\onS (vG (flA pl l l.length) 0 1 m) (vD (flA pl l l.length) 0 1 m) (pr (qL pl p) 0 1))=(∃m,m<l.length/\onS (vG l (axI pl.1) (axJ pl.1) m) (vD l (axI pl.1) (axJ pl.1) m) (pr p (axI pl.1) (axJ pl.1))):=by
  refine propext ⟨?_,?_⟩
  · rintro⟨m,h,k⟩
    rw[hl] at h;rw[eA m h,eB m h] at k;exact⟨m,h,k⟩
  · rintro⟨m,h,k⟩
    refine⟨m,by rw[hl];exact h,?_⟩;rw[eA m h,eB m h];exact k
 have eo':=eo l.length (zbe _);rw[<-hl] at eo';unfold kW
 by_cases h:∃m,m<l.length/\onS (vG l (axI pl.1) (axJ pl.1) m) (vD l (axI pl.1) (axJ pl.1) m) (pr p (axI pl.1) (axJ pl.1))
 · rw[zau (ee.mpr h),zau h]
 · rw[zae λe=>h (ee.mp e),zae h]
   rw[hl] at eo' ⊢
   by_cases h2:jN l (pr p (axI pl.1) (axJ pl.1)) (axI pl.1) (axJ pl.1) l.length
   · rw[zau (eo'.mpr h2),zau h2]
   · rw[zae λe=>h2 (eo'.mp e),zae h2]
theorem zB9(s:Sd)(f:Nat)(p:Pt):whF s f p=whZ (xR s f) (pr p (axI (s.2.1.getD f zA).1.1) (axJ (s.2.1.getD f zA).1.1)) (axI (s.2.1.getD f zA).1.1) (axJ (s.2.1.getD f zA).1.1):=by
 unfold whF;generalize he:(s.2.1.getD f zA).1=pl;have hl:(fJ s f).length=(xR s f).length:=(zB8 s f).1;have hg:∀m,m<(xR s f).length->(fJ s f).getD m []=flA pl (gl (xR s f) m) (gl (xR s f) m).length:=λm h=>by
  subst he;exact uO (λi=>flA (s.2.1.getD f zA).1 (gl (xR s f) i) (gl (xR s f) i).length) [] h
 have hi:∀m,m<(xR s f).length->kW ((fJ s f).getD m []) (pr (qL pl p) 0 1) 0 1=kW ((xR s f).getD m []) (pr p (axI pl.1) (axJ pl.1)) (axI pl.1) (axJ pl.1):=λm h=>by
  rw[hg m h];exact yBO pl _ p
 have ht:∀m,m<=(xR s f).length->mL (fJ s f) (pr (qL pl p) 0 1) 0 1 m=mL (xR s f) (pr p (axI pl.1) (axJ pl.1)) (axI pl.1) (axJ pl.1) m:=by
  intro m
  induction m with
  |zero=>intro _;rfl
  |succ m ih=>
   intro h
   show(if _ then _ else _)=(if _ then _ else _)
   rw[ih zot,hi m zot]
 have ee:(∃m,m<(fJ s f).length/\kW ((fJ s f).getD m []) (pr (qL pl p) 0 1) 0 1=0)=(∃m,m<(xR s f).length/\kW ((xR s f).getD m []) (pr p (axI pl.1) (axJ pl.1)) (axI pl.1) (axJ pl.1)=0):=by
  refine propext ⟨?_,?_⟩
  · rintro⟨m,h,k⟩
    rw[hl] at h;rw[hi m h] at k;exact⟨m,h,k⟩
  · rintro⟨m,h,k⟩
    refine⟨m,by rw[hl];exact h,?_⟩;rw[hi m h];exact k
 unfold whZ
 by_cases h:∃m,m<(xR s f).length/\kW ((xR s f).getD m []) (pr p (axI pl.1) (axJ pl.1)) (axI pl.1) (axJ pl.1)=0
 · rw[zau (ee.mpr h),zau h]
 · rw[zae λe=>h (ee.mp e),zae h,hl]
   exact ht _ (zbe _)
theorem yGF(L:List (List Pt))(p:P2)(i j:Nat):∀m,mL L p i j m≠0
  |0=>by unfold mL;decide
  |m+1=>by
   have:=yGF L p i j m;unfold mL
   split<;>omega
theorem yON{N A B q:Pt}{D:Rat}(hN:¬N.at (axK N)=0)(hA:zM N A=D)(hB:zM N B=D)(hq:zM N q=D)(hc:cr (pr A (axI N) (axJ N)) (pr B (axI N) (axJ N)) (pr q (axI N) (axJ N))=0):yC (yZ B A) (yZ q A)=zT:=by
 obtain⟨M,J,H⟩:=N;obtain⟨a1,a2,a3⟩:=A;obtain⟨b1,b2,b3⟩:=B;obtain⟨q1,Z,U⟩:=q;unfold zM at hA hB hq;unfold yC yZ;rw[kJ];simp only at hA hB hq ⊢;have C:∀O x:Rat,O≠0->O*x=0->x=0:=λO x h e=>(zoe.1 e).resolve_left h
 rcases zUJ ⟨M,J,H⟩ with⟨e1,e2,e3⟩|⟨e1,e2,e3⟩|⟨e1,e2,e3⟩|⟨e1,e2,e3⟩|⟨e1,e2,e3⟩|⟨e1,e2,e3⟩<;>rw[e1,e2] at hc<;>rw[e3] at hN<;>simp only[cr,pr,T3.at] at hc hN
 · exact⟨C H _ hN zo0,C H _ hN zo0,by grind⟩
 · exact⟨C H _ hN zo0,C H _ hN zo0,by grind⟩
 · exact⟨C J _ hN zo0,by grind,C J _ hN zo0⟩
 · exact⟨C J _ hN zo0,by grind,C J _ hN zo0⟩
 · exact⟨by grind,C M _ hN zo0,C M _ hN zo0⟩
 · exact⟨by grind,C M _ hN zo0,C M _ hN zo0⟩
theorem yK4{p d A B:Pt}{t:Rat}(ht:t≠0)(h:yC (yZ B A) (yZ (pW p d t) A)=zT):nG p A B d:=by
 obtain⟨O,M,J⟩:=p;obtain⟨a1,a2,a3⟩:=A;obtain⟨b1,b2,b3⟩:=B;obtain⟨d1,Z,U⟩:=d;have C:∀x:Rat,t*x=0->x=0:=λx e=>(zoe.1 e).resolve_left ht;unfold nG;unfold yC yZ pW uC scT at h;rw[kJ] at h;obtain⟨h1,h2,h3⟩:=h;simp only at h1 h2 h3
 split
 · rename_i hc
   unfold yC yZ at *;rw[kJ] at *;obtain⟨H,c2,D⟩:=hc;simp only at H c2 D ⊢;exact⟨C _ zo0,C _ zo0,C _ zo0⟩
 · refine C _ ?_
   unfold yH zM yC yZ;simp only;grind
def zH2(s:Sd)(p v:Pt):Prop:=∀f,f<s.2.1.length->∀l,l<(xR s f).length->∀k,k<(gl (xR s f) l).length->gp (gl (xR s f) l) k≠gp (gl (xR s f) l) ((k+1)%(gl (xR s f) l).length)->¬nG p (gp (gl (xR s f) l) k) (gp (gl (xR s f) l) ((k+1)%(gl (xR s f) l).length)) v
def zTU(s:Sd):Prop:=∀f,f<s.2.1.length->¬(s.2.1.getD f zA).1.1=zT/\∀l,l<(xR s f).length->∀k,k<(gl (xR s f) l).length->zM (s.2.1.getD f zA).1.1 (gp (gl (xR s f) l) k)=(s.2.1.getD f zA).1.2/\gp (gl (xR s f) l) k≠gp (gl (xR s f) l) ((k+1)%(gl (xR s f) l).length)
theorem zT2(N p d:Pt)(t:Rat):zM N (pW p d t)=zM N p+t*zM N d:=by
 unfold zM pW uC scT;simp only;grind
theorem yDE{L:List (List Pt)}{p:P2}{i j:Nat}(h:whZ L p i j=0):∃m,m<L.length/\∃k,k<(gl L m).length/\onS (vG (gl L m) i j k) (vD (gl L m) i j k) p:=by
 unfold whZ at h
 split at h
 · rename_i h1
   obtain⟨m,D,hz⟩:=h1;unfold kW at hz
   split at hz
   · rename_i h2
     obtain⟨k,hk,C⟩:=h2;exact⟨m,D,k,hk,C⟩
   · split at hz<;>exact absurd hz zow
 · exact absurd h (yGF _ _ _ _ _)
theorem zRB{s:Sd}{p d:Pt}{f:Nat}(hs:zTU s)(hf:f<s.2.1.length)(hc:zH2 s p d)(hk:¬skP s p d f):whF s f (pW p d (hnF s p f/cnF s d f))≠0:=by
 intro h0;rw[zB9] at h0;obtain⟨l,J,k,D,O⟩:=yDE h0;obtain⟨hz,C⟩:=hs f hf;have U:cnF s d f≠0:=λe=>hk (by unfold skP;rw[aJ,e];grind);have ht:hnF s p f/cnF s d f≠0:=λe=>hk (by
  have:hnF s p f=0:=by
   have h1:hnF s p f=hnF s p f/cnF s d f*cnF s d f:=by generalize cnF s d f=c at *;grind
   rw[e] at h1;grind
  unfold skP;rw[aJ,this];grind)
 have M:zM (s.2.1.getD f zA).1.1 (pW p d (hnF s p f/cnF s d f))=(s.2.1.getD f zA).1.2:=by
  rw[zT2];have h1:hnF s p f/cnF s d f*cnF s d f=hnF s p f:=by generalize cnF s d f=c at *;grind
  have h2:zM (s.2.1.getD f zA).1.1 d=cnF s d f:=I;rw[h2,h1];unfold hnF;grind
 obtain⟨hA,H⟩:=C l J k D;have hB:=(C l J ((k+1)%(gl (xR s f) l).length) (zcu _ zot)).1;have hN:¬(s.2.1.getD f zA).1.1.at (axK (s.2.1.getD f zA).1.1)=0:=λe=>hz ((zUI _).1 e);exact hc f hf l J k D H (yK4 ht (yON hN hA hB M O.2.2))
abbrev PIr:=Int×Int
def mmI(a b:Int):PIr:=(min a b,max a b)
def ptI(P:List Pt)(i:Int):Pt:=gp P i.toNat
def sxE(P:List Pt)(x:List Int)(S:List PIr):Nat->List PIr
  |0=>S
  |k+1=>if mmI (x.getD k 0) (x.getD ((k+1)%x.length) 0)∈sxE P x S k\/ptI P (x.getD k 0)=ptI P (x.getD ((k+1)%x.length) 0) then sxE P x S k else sxE P x S k++[mmI (x.getD k 0) (x.getD ((k+1)%x.length) 0)]
def slE(P:List Pt)(L:List (List Int))(S:List PIr):Nat->List PIr
  |0=>S
  |l+1=>sxE P (L.getD l []) (slE P L S l) (L.getD l []).length
def sfE(s:Sd):Nat->List PIr
  |0=>[]
  |f+1=>slE s.1 (s.2.1.getD f zA).2.1 (sfE s f) (s.2.1.getD f zA).2.1.length
def isE(P:List Pt)(x:List Int)(n:Nat)(e:PIr):Prop:=∃k,k<n/\e=mmI (x.getD k 0) (x.getD ((k+1)%x.length) 0)/\ptI P (x.getD k 0)≠ptI P (x.getD ((k+1)%x.length) 0)
theorem zXP(P:List Pt)(x:List Int)(S:List PIr)(e:PIr):∀n,e∈sxE P x S n↔e∈S\/isE P x n e
  |0=>⟨.inl,λh=>h.elim id λ⟨_,h,_⟩=>absurd h (z2u _)⟩
  |n+1=>by
   have ih:=zXP P x S e n;have hs:isE P x (n+1) e↔isE P x n e\/(e=mmI (x.getD n 0) (x.getD ((n+1)%x.length) 0)/\ptI P (x.getD n 0)≠ptI P (x.getD ((n+1)%x.length) 0)):=by
    constructor
    · rintro⟨k,hk,h⟩
      rcases zhu.1 hk with h1|rfl
      · exact .inl ⟨k,h1,h⟩
      · exact .inr h
    · rintro(⟨k,hk,h⟩|h)
      · exact⟨k,by omega,h⟩
      · exact⟨n,by omega,h⟩
   unfold sxE
   by_cases hc:mmI (x.getD n 0) (x.getD ((n+1)%x.length) 0)∈sxE P x S n\/ptI P (x.getD n 0)=ptI P (x.getD ((n+1)%x.length) 0)
   · rw[zau hc,ih,hs]
     constructor
     · rintro(h|h)
       · exact .inl h
       · exact .inr (.inl h)
     · rintro(h|h|⟨h1,h2⟩)
       · exact .inl h
       · exact .inr h
       · rcases hc with hc|hc
         · rw[<-h1] at hc
           exact ih.1 hc
         · exact absurd hc h2
   · rw[zae hc,zli,ih,hs,zte]
     constructor
     · rintro((h|h)|h)
       · exact .inl h
       · exact .inr (.inl h)
       · exact .inr (.inr ⟨h,λe=>hc (.inr e)⟩)
     · rintro(h|h|⟨h1,_⟩)
       · exact .inl (.inl h)
       · exact .inl (.inr h)
       · exact .inr h1
theorem zXZ(P:List Pt)(L:List (List Int))(S:List PIr)(e:PIr):∀n,e∈slE P L S n↔e∈S\/∃l,l<n/\isE P (L.getD l []) (L.getD l []).length e
  |0=>⟨.inl,λh=>h.elim id λ⟨_,h,_⟩=>absurd h (z2u _)⟩
  |n+1=>by
   unfold slE;rw[zXP,zXZ P L S e n];constructor
   · rintro((h|⟨l,hl,h⟩)|h)
     · exact .inl h
     · exact .inr ⟨l,by omega,h⟩
     · exact .inr ⟨n,by omega,h⟩
   · rintro(h|⟨l,hl,h⟩)
     · exact .inl (.inl h)
     · rcases zhu.1 hl with h1|rfl
       · exact .inl (.inr ⟨l,h1,h⟩)
       · exact .inr h
theorem zKS(s:Sd)(e:PIr):∀n,e∈sfE s n↔∃f,f<n/\∃l,l<(s.2.1.getD f zA).2.1.length/\isE s.1 ((s.2.1.getD f zA).2.1.getD l []) ((s.2.1.getD f zA).2.1.getD l []).length e
  |0=>⟨λh=>absurd h zgu,λ⟨_,h,_⟩=>absurd h (z2u _)⟩
  |n+1=>by
   unfold sfE;rw[zXZ,zKS s e n];constructor
   · rintro(⟨f,hf,h⟩|h)
     · exact⟨f,by omega,h⟩
     · exact⟨n,by omega,h⟩
   · rintro⟨f,hf,h⟩
     rcases zhu.1 hf with h1|rfl
     · exact .inl ⟨f,h1,h⟩
     · exact .inr h
theorem zHV{s:Sd}{f:Nat}(hf:f<s.2.1.length)(hn:nmP s f):(xR s f).length=(s.2.1.getD f zA).2.1.length/\∀l,l<(s.2.1.getD f zA).2.1.length->(gl (xR s f) l).length=((s.2.1.getD f zA).2.1.getD l []).length/\∀k,k<((s.2.1.getD f zA).2.1.getD l []).length->gp (gl (xR s f) l) k=ptI s.1 (((s.2.1.getD f zA).2.1.getD l []).getD k 0):=by
 have e:xR s f=zHW s f (s.2.1.getD f zA).2.1.length:=by
  unfold xR;rw[zau ⟨⟨by omega,by omega⟩,by rw[z1i];exact hn⟩,z1i]
 rw[e];refine⟨yY _ _,λl C=>?_⟩;have D:gl (zHW s f (s.2.1.getD f zA).2.1.length) l=zF7 s.1 ((s.2.1.getD f zA).2.1.getD l []) ((s.2.1.getD f zA).2.1.getD l []).length:=uO _ _ C;rw[D];exact⟨yY _ _,λk hk=>uO (λk=>gp s.1 (((s.2.1.getD f zA).2.1.getD l []).getD k 0).toNat) _ hk⟩
theorem yBA{P:List Pt}{p v:Pt}(a b:Int):nG p (ptI P (mmI a b).1) (ptI P (mmI a b).2) v↔nG p (ptI P a) (ptI P b) v:=by
 unfold mmI
 by_cases h:a<=b
 · show nG p (ptI P (min a b)) (ptI P (max a b)) v↔_
   rw[Int.min_eq_left h,Int.max_eq_right h]
 · show nG p (ptI P (min a b)) (ptI P (max a b)) v↔_
   rw[Int.min_eq_right zot,Int.max_eq_left zot];exact⟨zOU,zOU⟩
theorem zMJ{s:Sd}(hn:nmA s)(p v:Pt):zH2 s p v↔∀e,e∈sfE s s.2.1.length->¬nG p (ptI s.1 e.1) (ptI s.1 e.2) v:=by
 constructor
 · intro h e M
   obtain⟨f,hf,l,J,k,hk,rfl,C⟩:=(zKS s e _).1 M;obtain⟨O,c2⟩:=zHV hf (hn f hf);obtain⟨H,D⟩:=c2 l J;rw[yBA];have:=h f hf l zot k zot;rw[H,D k hk,D _ (zcu _ zot)] at this;exact this C
 · intro h f hf l J k hk C
   obtain⟨O,c2⟩:=zHV hf (hn f hf);obtain⟨H,D⟩:=c2 l zot;rw[H] at hk C ⊢;rw[D k hk,D _ (zcu _ zot)] at C ⊢;rw[<-yBA];exact h _ ((zKS s _ _).2 ⟨f,hf,l,by omega,k,hk,I,C⟩)
theorem yGQ{s:Sd}{e:PIr}{n:Nat}(he:e∈sfE s n):ptI s.1 e.1≠ptI s.1 e.2:=by
 obtain⟨f,hf,l,D,k,hk,rfl,C⟩:=(zKS s e n).1 he;generalize ((s.2.1.getD f zA).2.1.getD l []).getD k 0=a at *;generalize ((s.2.1.getD f zA).2.1.getD l []).getD ((k+1)%((s.2.1.getD f zA).2.1.getD l []).length) 0=b at *;unfold mmI
 by_cases h:a<=b
 · show ptI s.1 (min a b)≠ptI s.1 (max a b)
   rw[Int.min_eq_left h,Int.max_eq_right h];exact C
 · show ptI s.1 (min a b)≠ptI s.1 (max a b)
   rw[Int.min_eq_right zot,Int.max_eq_left zot];exact C.symm
def zR1(s:Sd)(p:Pt):Nat:=dL λk=>zH2 s p (vK k)
theorem oC{s:Sd}(hn:nmA s)(p:Pt):zR1 s p<=2*(sfE s s.2.1.length).length/\zH2 s p (vK (zR1 s p))/\∀j:Nat,j<zR1 s p->¬zH2 s p (vK j):=by
 obtain⟨k,hk,D⟩:=zQJ (λ(e:PIr) (k:Nat)=>nG p (ptI s.1 e.1) (ptI s.1 e.2) (vK k)) (sfE s s.2.1.length) (List.range (2*(sfE s s.2.1.length).length+1)) List.nodup_range (by rw[yju];omega) λe H i j k h1 h2 h3 a b c=>yG3 (yGQ H) h1 h2 h3 a b c;have C:zH2 s p (vK k):=(zMJ hn p _).2 D;obtain⟨h1,h2,h3⟩:=zAM (q:=λk:Nat=>zH2 s p (vK k)) C;have:=zog.1 hk;exact⟨by unfold zR1;omega,h2,h3⟩
theorem zHL{α:Type}{g:Nat->List α}:∀{n},gM g n=[]->∀i,i<n->g i=[]
  |0,_,i,h=>absurd h (z2u i)
  |n+1,e,i,h=>by
   have e':gM g n++g n=[]:=e;rw[List.append_eq_nil_iff] at e'
   rcases zhu.1 h with h1|rfl
   · exact zHL e'.1 i h1
   · exact e'.2
theorem dX{s:Sd}(h:kC s):szZ s=[]/\zMV s s.1.length=[]/\plZ s=[]/\neZ s=[]/\clZ (wZ s)=[]:=by
 unfold kC yCD at h
 by_cases h1:0<(szZ s).length
 · rw[zau h1] at h;omega
 · rw[zae h1] at h
   by_cases h2:0<(zMV s s.1.length).length
   · rw[zau h2] at h;omega
   · rw[zae h2] at h
     by_cases h3:0<(plZ s).length
     · rw[zau h3] at h;omega
     · rw[zae h3] at h
       by_cases h4:0<(neZ s).length
       · rw[zau h4] at h;omega
       · rw[zae h4] at h
         exact⟨zof zot,zof zot,zof zot,zof zot,zof h⟩
theorem s9{s:Sd}(h:kC s){f:Nat}(hf:f<s.2.1.length):vfP (s.2.1.getD f zA).2.1/\nmP s f:=by
 have hz:=(dX h).1;unfold szZ at hz
 by_cases hb:zPK s
 · rw[zau hb] at hz;simp at hz
 · rw[zae hb] at hz
   have:=(oQ (p:=szP s) _).1 hz f hf;unfold szP at this;exact⟨zdi λe=>this (.inl e),zdi λe=>this (.inr e)⟩
theorem sG{s:Sd}(h:kC s):nmA s:=λf hf=>(s9 h hf).2
theorem yDX{s:Sd}(h:kC s){i k:Nat}(hi:i<s.1.length)(hk:k<s.1.length)(hne:i≠k):gp s.1 i≠gp s.1 k:=by
 have ht:=(oQ (p:=twP s) _).1 (dX h).2.1;intro e
 rcases Nat.lt_or_gt_of_ne hne with h1|h1
 · exact ht k hk ⟨i,h1,e.symm⟩
 · exact ht i hi ⟨k,h1,e⟩
theorem bR{s:Sd}(h:kC s):zTU s:=by
 have H:=(dX h).2.2.1;unfold plZ at H
 by_cases hz:0<(zUN s s.2.1.length).length
 · rw[zau hz] at H;rw[H] at hz;exact absurd hz zow
 · rw[zae hz] at H
   have M:=(oQ (p:=zrP s) _).1 (zof (Nat.le_zero.1 (zye.1 hz)));intro f hf;obtain⟨hv,O⟩:=s9 h hf;obtain⟨c1,c2⟩:=zHV hf O;refine⟨M f hf,λl hl k hk=>⟨?_,?_⟩⟩
   · have o1:=zHL (zHL H f hf) l hl
     have o2:=(oQ (p:=ofP s f l) _).1 o1 k hk;have U:=zdi o2;unfold sdZ hgt at U;have:=uT.1 U;grind
   · have C:l<(s.2.1.getD f zA).2.1.length:=by omega
     obtain⟨c3,Z⟩:=c2 l C;rw[c3] at hk ⊢;have D:=hv.2 l C;have J:(k+1)%((s.2.1.getD f zA).2.1.getD l []).length<((s.2.1.getD f zA).2.1.getD l []).length:=zcu _ zot;rw[Z k hk,Z _ J];have n1:=O l C k hk;have n2:=O l C _ J;have aa:((s.2.1.getD f zA).2.1.getD l []).getD k 0≠((s.2.1.getD f zA).2.1.getD l []).getD ((k+1)%((s.2.1.getD f zA).2.1.getD l []).length) 0:=by
      generalize ((s.2.1.getD f zA).2.1.getD l [])=x at *;have h3:=D.1.1
      rcases ztu (k+1) x.length with h4|h4
      · rw[zoh h4]
        exactλe=>(D.2 (k+1) h4).2 k zot e.symm
      · have e0:k+1=x.length:=by omega
        rw[e0,y2u];exact(D.2 k hk).2 0 zot
     exact yDX h zot zot zot
variable {a b p d:Pt}
theorem yLV{f:Nat}(hf:f<6):cnF (bxS a b) d f=if f%2=1 then d.at (f/2) else-d.at (f/2):=by
 unfold cnF;have e:((bxS a b).2.1.getD f zA).1.1=dN (gN f) 1:=zbi Prod.fst (w8 (a:=a) (b:=b) hf).2;rw[e];have:f=0\/f=1\/f=2\/f=3\/f=4\/f=5:=by omega
 rcases this with rfl|rfl|rfl|rfl|rfl|rfl<;>(simp[gN,dN,T3.set,zM,T3.at];try grind)
theorem yK3{f:Nat}(hf:f<6):hnF (bxS a b) p f=if f%2=1 then b.at (f/2)-p.at (f/2) else p.at (f/2)-a.at (f/2):=by
 unfold hnF;have e:((bxS a b).2.1.getD f zA).1=plD a b (gN f):=(w8 (a:=a) (b:=b) hf).2;rw[e];have:f=0\/f=1\/f=2\/f=3\/f=4\/f=5:=by omega
 rcases this with rfl|rfl|rfl|rfl|rfl|rfl<;>(simp[gN,plD,dN,T3.set,zM,T3.at];try grind)
theorem yHS(h:∀i,a.at i<b.at i){u s:Nat}(hu:u<3)(hs:s<2)(q:Pt):
 (whF (bxS a b) (2*u+s) q=0↔(kI a b q ((u+1)%3)/\kI a b q ((u+2)%3))/\¬(sI a b q ((u+1)%3)/\sI a b q ((u+2)%3)))/\(whF (bxS a b) (2*u+s) q=1↔sI a b q ((u+1)%3)/\sI a b q ((u+2)%3)):=by
 have hk:∀v,sI a b q v->kI a b q v:=λv e=>⟨zee e.1,zee e.2⟩;have C:∀v w,whF (bxS a b) (2*u+s) q=(if(kI a b q v/\kI a b q w)/\¬(sI a b q v/\sI a b q w) then 0 else if sI a b q v/\sI a b q w then 1 else -1)->
  (whF (bxS a b) (2*u+s) q=0↔(kI a b q v/\kI a b q w)/\¬(sI a b q v/\sI a b q w))/\(whF (bxS a b) (2*u+s) q=1↔sI a b q v/\sI a b q w):=λv w e=>by
  rw[e]
  by_cases h1:(kI a b q v/\kI a b q w)/\¬(sI a b q v/\sI a b q w)
  · rw[zau h1]
    exact⟨⟨λ_=>h1,λ_=>I⟩,λe=>absurd e zow,λe=>absurd e h1.2⟩
  · rw[zae h1]
    by_cases h2:sI a b q v/\sI a b q w
    · rw[zau h2]
      exact⟨⟨λe=>absurd e zow,λe=>absurd e h1⟩,λ_=>h2,λ_=>I⟩
    · rw[zae h2]
      exact⟨⟨λe=>absurd e zow,λe=>absurd e h1⟩,λe=>absurd e zow,λe=>absurd e h2⟩
 have e:=yGH h (f:=2*u+s) zot q;have D:∀v w,((kI a b q v/\kI a b q w)/\¬(sI a b q v/\sI a b q w))=((kI a b q w/\kI a b q v)/\¬(sI a b q w/\sI a b q v))/\(sI a b q v/\sI a b q w)=(sI a b q w/\sI a b q v):=λv w=>by
  constructor<;>(apply propext;constructor<;>grind)
 have:(u=0\/u=1\/u=2)/\(s=0\/s=1):=by omega
 rcases this with⟨rfl|rfl|rfl,rfl|rfl⟩
 · have k:=C 2 1 e;rw[(D 2 1).1,(D 2 1).2] at k;exact k
 · exact C 1 2 e
 · have k:=C 0 2 e;rw[(D 0 2).1,(D 0 2).2] at k;exact k
 · exact C 2 0 e
 · have k:=C 1 0 e;rw[(D 1 0).1,(D 1 0).2] at k;exact k
 · exact C 0 1 e
theorem zAC(t:Rat):∀u,(pW p d t).at u=p.at u+t*d.at u
  |0=>rfl
  |1=>rfl
  |_+2=>rfl
theorem pJ{x l t:Rat}(hx:0<x):l*x<t*x↔l<t:=by
 constructor
 · intro h
   refine Rat.not_le.1 λe=>?_;have:0<=(l-t)*x:=zod zo0 (zee hx);grind
 · intro h
   have:=vC (show 0<t-l by grind) hx;grind
theorem eE{x l t:Rat}(hx:0<x):l*x<=t*x↔l<=t:=by
 rw[<-Rat.not_lt,<-Rat.not_lt,pJ hx]
structure Ax(a b p d:Pt)(M:Rat)(u:Nat)(l h:Rat):Prop where
 lt:l<h
 z:d.at u=0->l= -M/\h=M
 n:d.at u≠0->(-M<l/\l<M)/\-M<h/\h<M
 s:∀t,-M<t->t<M->(sI a b (pW p d t) u↔l<t/\t<h)
 k:∀t,-M<t->t<M->(kI a b (pW p d t) u↔l<=t/\t<=h)
 pos:0<d.at u->l*d.at u=a.at u-p.at u/\h*d.at u=b.at u-p.at u
 neg:d.at u<0->l*d.at u=b.at u-p.at u/\h*d.at u=a.at u-p.at u
theorem yMJ{M:Rat}{u:Nat}(hab:a.at u<b.at u)(hd:0<d.at u){l h:Rat}(hl:l*d.at u=a.at u-p.at u)(hh:h*d.at u=b.at u-p.at u)(hM:(-M<l/\l<M)/\-M<h/\h<M):Ax a b p d M u l h:=by
 refine⟨?_,λe=>by grind,λ_=>hM,λt _ _=>?_,λt _ _=>?_,λ_=>⟨hl,hh⟩,λe=>by grind⟩
 · rw[<-pJ hd];grind
 · unfold sI;rw[zAC,<-pJ (l:=l) hd,<-pJ (l:=t) hd];constructor<;>intro h<;>constructor<;>grind
 · unfold kI;rw[zAC,<-eE (l:=l) hd,<-eE (l:=t) hd];constructor<;>intro h<;>constructor<;>grind
theorem yMK{M:Rat}{u:Nat}(hab:a.at u<b.at u)(hd:d.at u<0){l h:Rat}(hl:l*d.at u=b.at u-p.at u)(hh:h*d.at u=a.at u-p.at u)(hM:(-M<l/\l<M)/\-M<h/\h<M):Ax a b p d M u l h:=by
 have C:0< -d.at u:=by grind
 refine⟨?_,λe=>by grind,λ_=>hM,λt _ _=>?_,λt _ _=>?_,λe=>by grind,λ_=>⟨hl,hh⟩⟩
 · rw[<-pJ C];grind
 · unfold sI;rw[zAC,<-pJ (l:=l) C,<-pJ (l:=t) C];constructor<;>intro h<;>constructor<;>grind
 · unfold kI;rw[zAC,<-eE (l:=l) C,<-eE (l:=t) C];constructor<;>intro h<;>constructor<;>grind
theorem yCX{M:Rat}{u:Nat}(hM:0<M)(hd:d.at u=0)(hs:sI a b p u):Ax a b p d M u (-M) M:=by
 have e:∀t,(pW p d t).at u=p.at u:=λt=>by rw[zAC,hd];grind
 refine⟨by grind,λ_=>⟨I,I⟩,λh=>absurd hd h,λt h1 h2=>?_,λt h1 h2=>?_,λh=>by grind,λh=>by grind⟩
 · unfold sI at *;rw[e];exact⟨λ_=>⟨h1,h2⟩,λ_=>hs⟩
 · unfold kI;unfold sI at hs;rw[e];exact⟨λ_=>⟨zee h1,zee h2⟩,λ_=>⟨zee hs.1,zee hs.2⟩⟩
theorem yOL{s:Sd}{f:Nat}{t:Rat}(hc:cnF s d f≠0)(ht:hnF s p f=t*cnF s d f):(skP s p d f↔¬0<t)/\hnF s p f/cnF s d f=t:=by
 refine⟨?_,?_⟩
 · unfold skP
   rw[aJ,ht];generalize cnF s d f=c at *;refine not_congr ⟨?_,λh0=>?_⟩
   · rintro(⟨h1,h2⟩|⟨h1,h2⟩)
     · refine Rat.not_le.1 λe=>?_
       have:0<=(-t)*c:=zod zo0 (zee h1);grind
     · refine Rat.not_le.1 λe=>?_
       have:0<=(-t)*(-c):=zod zo0 zo0;grind
   · by_cases h1:0<c
     · exact .inl ⟨h1,vC h0 h1⟩
     · have:=vC h0 (show 0< -c by grind)
       exact .inr ⟨by grind,by grind⟩
 · rw[ht]
   generalize cnF s d f=c at *;grind
theorem zCA(hab:∀i,a.at i<b.at i){M:Rat}{u s:Nat}(hu:u<3)(hs:s<2){t lv hv lw hw:Rat}(V:Ax a b p d M ((u+1)%3) lv hv)(W:Ax a b p d M ((u+2)%3) lw hw)(h1:-M<t)(h2:t<M)
    (hc:cnF (bxS a b) d (2*u+s)≠0)(ht:hnF (bxS a b) p (2*u+s)=t*cnF (bxS a b) d (2*u+s)):
    crE (bxS a b) p d (2*u+s)=(if 0<cnF (bxS a b) d (2*u+s) then 1 else -1)*bD (exI t lv hv lw hw)/\((¬skP (bxS a b) p d (2*u+s)->whF (bxS a b) (2*u+s) (pW p d (hnF (bxS a b) p (2*u+s)/cnF (bxS a b) d (2*u+s)))≠0)->dB t lv hv lw hw):=by
 obtain⟨hk,D⟩:=yOL hc ht;obtain⟨w0,C⟩:=yHS hab hu hs (pW p d t);rw[V.s t h1 h2,W.s t h1 h2] at w0 C;rw[V.k t h1 h2,W.k t h1 h2] at w0;refine⟨?_,?_⟩
 · unfold crE
   rw[D]
   by_cases h0:0<t
   · rw[zae λe=>hk.1 e h0]
     by_cases hw1:(lv<t/\t<hv)/\lw<t/\t<hw
     · rw[zau (C.2 hw1),lM (show exI t lv hv lw hw from⟨h0,hw1⟩),Int.mul_one]
     · rw[zae λe=>hw1 (C.1 e),kP (show ¬exI t lv hv lw hw fromλe=>hw1 e.2),yuu]
   · rw[zau (hk.2 h0),kP (show ¬exI t lv hv lw hw fromλe=>h0 e.1),yuu]
 · intro H h0 J c2
   rw[D] at H;exact zdi λe=>H (λk=>hk.1 k h0) (w0.2 ⟨⟨J,c2⟩,e⟩)
theorem yLI{M t lv hv lw hw:Rat}{v w:Nat}(V:Ax a b p d M v lv hv):¬exI M lv hv lw hw:=λe=>by
 by_cases h:d.at v=0
 · have:=(V.z h).2;unfold exI at e;grind
 · have:=(V.n h).2.2;unfold exI at e;grind
theorem zH8(hab:∀i,a.at i<b.at i){M:Rat}(hM:0<M){u:Nat}(hu:u<3){l h lv hv lw hw:Rat}(U:Ax a b p d M u l h)(V:Ax a b p d M ((u+1)%3) lv hv)(W:Ax a b p d M ((u+2)%3) lw hw)
    (hz:d.at u=0->d.at ((u+1)%3)≠0\/d.at ((u+2)%3)≠0)(hb:∀f,f<6->¬skP (bxS a b) p d f->whF (bxS a b) f (pW p d (hnF (bxS a b) p f/cnF (bxS a b) d f))≠0):
    crE (bxS a b) p d (2*u)+crE (bxS a b) p d (2*u+1)=bD (exI h lv hv lw hw)-bD (enI l lv hv lw hw)/\dB h lv hv lw hw/\dB l lv hv lw hw:=by
 have H:cnF (bxS a b) d (2*u+0)= -d.at u:=by rw[yLV zot,zae zot,show(2*u+0)/2=u by omega]
 have D:cnF (bxS a b) d (2*u+1)=d.at u:=by rw[yLV zot,zau zot,show(2*u+1)/2=u by omega]
 have n0:hnF (bxS a b) p (2*u+0)=p.at u-a.at u:=by rw[yK3 zot,zae zot,show(2*u+0)/2=u by omega]
 have n1:hnF (bxS a b) p (2*u+1)=b.at u-p.at u:=by rw[yK3 zot,zau zot,show(2*u+1)/2=u by omega]
 by_cases hd:d.at u=0
 · obtain⟨el,eh⟩:=U.z hd
   have Z:crE (bxS a b) p d (2*u+0)=0:=by
    unfold crE;refine zau ?_;unfold skP;rw[aJ,H,hd];grind
   have z1:crE (bxS a b) p d (2*u+1)=0:=by
    unfold crE;refine zau ?_;unfold skP;rw[aJ,D,hd];grind
   have x1:¬exI h lv hv lw hw:=by rw[eh];exact yLI (t:=M) (w:=0) V
   have x2:¬enI l lv hv lw hw:=λe=>by unfold enI at e;grind
   refine⟨?_,?_,λe=>by grind⟩
   · rw[zke] at Z
     rw[Z,z1,kP x1,kP x2];rfl
   · intro _ e2 e3
     rcases hz hd with k|k
     · have:=(V.n k).2.2;grind
     · have:=(W.n k).2.2;grind
 · obtain⟨⟨m1,m2⟩,m3,m4⟩:=U.n hd
   by_cases hp:0<d.at u
   · obtain⟨q1,q2⟩:=U.pos hp
     obtain⟨r1,J⟩:=zCA hab hu (s:=1) zow V W m3 m4 (by rw[D];exact hd) (by rw[n1,D,q2]);obtain⟨C,O⟩:=zCA hab hu (s:=0) zow V W m1 m2 (by rw[H];grind) (by rw[n0,H];grind);refine⟨?_,J (hb _ zot),O (hb _ zot)⟩;rw[D,zau hp] at r1;rw[H,zae zo0] at C;rw[zke] at C;rw[C,r1]
     show -1*bD (exI l lv hv lw hw)+_=_-bD (exI l lv hv lw hw)
     omega
   · obtain⟨q1,q2⟩:=U.neg zo0
     obtain⟨r1,J⟩:=zCA hab hu (s:=1) zow V W m1 m2 (by rw[D];exact hd) (by rw[n1,D,q1]);obtain⟨C,O⟩:=zCA hab hu (s:=0) zow V W m3 m4 (by rw[H];grind) (by rw[n0,H];grind);refine⟨?_,O (hb _ zot),J (hb _ zot)⟩;rw[D,zae hp] at r1;rw[H,zau zo0] at C;rw[zke] at C;rw[C,r1]
     show _+-1*bD (exI l lv hv lw hw)=_-bD (exI l lv hv lw hw)
     omega
end Bk
