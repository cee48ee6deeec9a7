/- Texts that the proof needs, part 6. -/
import Derived.Test.YtpkaegemlpaenaaGreatKC5
set_option linter.unusedVariables false
set_option linter.unusedSimpArgs false
namespace Go.Proofs.YtpkaegemlpaenaaGreat
open Bk Go Tryz
set_option maxRecDepth 10000
set_option maxHeartbeats 1000000
attribute [local irreducible] GL GC GQ W OpV
theorem vM{w0:World}{h0:Mem}(hs:MLe h0 (mem w0)){n:Int}(hn1:-9223372036854775808<=n)(hn2:n<9223372036854775808):
 Calls Tryz.prog 88 #[vI n] w0 (Ret w0 h0 (λh r=>qI.Is h r (qP ((n:Int):Rat)))):=by
 refine cb1 6 (vI n) func88 hs ?_;refine zQ (zF (asg I I (yB (zH (zQ (zF (mv I I (cL (ev1 I) call27 (λw hs=>kM hs oM oM) λv4 h1 aa r4=>?_))))))));obtain⟨J,M,C,D,G,H⟩:=qR r4;subst C;refine cL (ev1 I) call134 (λw hs=>zSV hs D G oM) λv5 h2 Z O=>?_;subst O;have U:=zAQ ((n:Int):Rat);refine asg I I (yB (zH (lG (zC I I ?_))));exact(cY (zZH ((n:Int):Rat)))
set_option maxHeartbeats 1000000 in
theorem zIP{w0:World}{h0:Mem}(hs:MLe h0 (mem w0)){k l1 l2:Nat}{vL:Value}{L:(List (List Tq))}(rL:(tLL k).Is h0 vL L){vlo:Value}{lo:Rat}(rlo:(rpQ l1).Is h0 vlo lo){vhi:Value}{hi:Rat}(rhi:(rpQ l2).Is h0 vhi hi)(hcd0:k<=20)(hcd1:l1<=20)(hcd2:l2<=20)(hcd3:∀x,x∈L->cQ x)(hcd4:prE L lo hi=0->okS (prR L lo hi)):
 Calls Tryz.prog 46 #[vL,vlo,vhi] w0 (fW w0 h0 (λh r L_=>∃u0 vF cs,r=.tuple #[u0,vI (prE L lo hi)]/\(rpP (tLs (k+l1+l2+20)) (rpP rpV (rpS (rpP rpI (rpP rpI (rpQ 5)))))).Is h u0 (prP L lo hi,(vF,[]))/\L_=[.gs 53 14 vF (prF L lo hi).length cs]/\vF.oneCell'=true/\RL (tFc (1000*k+1000*l1+1000*l2+2000) (1000*k+1000*l1+1000*l2+2000)) h cs (prF L lo hi))):=by
 refine cb3 341 vL vlo vhi func46 hs ?_;refine zQ (zF (nB rlo λb4 ea dc=>(nB rhi λb5 dz db=>(nA (ρ:=(rpP (tLs 1) (rpP rpV (rpS (rpP rpI (rpP rpI (rpQ 1))))))) (X:=([],((Value.slice none 0 0),[]))) qS (yC wG (yC gV wG)) λb6 dy bi=>(asg (v:=vI (0)) I I (yB (zH (zQ (zQ (zF (mv I I (cL (ev1 I) call85 (λw hs=>zIN hs rL oM (by first|omega|exact hcd3)) λv36 h1 dv sx=>?_))))))))))));obtain⟨jl,rfl,lm⟩:=sx
 change (rpS rpI).Is h1 jl (sJ L 0 1) at lm
 refine mv I I (gv (gY (vs:=[_,_]) I I) I (gv (gY (vs:=[_,_]) I I) I (asg I I (asg I I (yB (zH (zQ (zF (mv I I (gv (bR (q:=0) I I) I (yB (vO (e':=[(0,_),(4,_),(5,_),(6,_),(9,_),(40,_)]) e6z (zH ?_)))))))))))));refine cnd (λgm=>?_) λgm=>?_
 ·
  refine zQ (zF (lX (xV (ρ:=(rpP (tLs 1) (rpP rpV (rpS (rpP rpI (rpP rpI (rpQ 1))))))) (xZ (ps':=[]) underlying39 qS I I (rH underlying39) trivial I (yC wG (yC gV wG)) zO)) λv41 sw=>(mv I I ?_)));replace bi:=bi.mono dv;refine zW (A:=[]) (uB sizeOf39 pH bi sw) λzd nw=>(asg I I (yB (zH (lG (nG ?_)))));obtain⟨e1,e2,e3⟩:=pr_1 (lo:=lo) (hi:=hi) gm;rw[e1,e2,e3];refine aR 53 14 ?_;have nu:=RL.nil (ρ:=rpP (tPl (1000*k+1000*l1+1000*l2+2000) (1000*k+1000*l1+1000*l2+2000)) (rpP tII qI)) (h:=h1);refine wT (kJ (t:=6) jB mh1 I nw) ?_;intro zi ln ns;refine kO (.cons_cons _ (List.nil_sublist _)) (λE S=>jS I ln (tE I) E S) ?_;exact⟨_,_,_,I,(Rp.Is.le ns (Le.p (Le.s (Le.t (Le.q (l:=k+l1+l2+20) oM))) (Le.p (Le.refl _) (Le.s (Le.p (Le.refl _) (Le.p (Le.refl _) (Le.q (l:=5) dC))))))),I,I,nu⟩
 refine qK (zH (zQ (zQ (zF (mv I I ?_)))));have gg:uA L 0 1=0:=Classical.not_not.1 gm;have dt:=yB3 gg;have lw:=zY5 dt.2;replace rL:=rL.mono dv;refine cL (ev1 I) call86 (λw hs=>zIQ hs rL oM (by first|omega|exactλl hl=>Nat.le_trans (dt.2 l hl) dC) (by first|omega|exactλl hl=>Nat.le_trans (dt.2 l hl) dC)) λrx h2 eh sv=>?_;obtain rfl:rx=vI (ouZ L):=sv;have tf:=zBB L L.length;refine gv (bR (q:=1) I I) I (yB (zH ?_));refine cnd (λdx=>?_) λdx=>?_
 ·
  refine zQ (zF (lX (xV (ρ:=(rpP (tLs 1) (rpP rpV (rpS (rpP rpI (rpP rpI (rpQ 1))))))) (xZ (ps':=[]) underlying39 qS I I (rH underlying39) trivial I (yC wG (yC gV wG)) zO)) λzz su=>?_));replace bi:=bi.mono (dv.trans eh);refine zW (A:=[]) (uB sizeOf39 pH bi su) λzc nv=>(asg (v:=vI (33)) I I (yB (zH (lG (nG ?_)))));obtain⟨e1,e2,e3⟩:=yKL (lo:=lo) (hi:=hi) gg dx;rw[e1,e2,e3];refine aR 53 14 ?_;have nt:=RL.nil (ρ:=rpP (tPl (1000*k+1000*l1+1000*l2+2000) (1000*k+1000*l1+1000*l2+2000)) (rpP tII qI)) (h:=h2);refine wT (kJ (t:=6) jB mh1 I nv) ?_;intro vb ir ka;refine kO (.cons_cons _ (List.nil_sublist _)) (λE S=>jS I ir (tE I) E S) ?_;exact⟨_,_,_,I,(Rp.Is.le ka (Le.p (Le.s (Le.t (Le.q (l:=k+l1+l2+20) oM))) (Le.p (Le.refl _) (Le.s (Le.p (Le.refl _) (Le.p (Le.refl _) (Le.q (l:=5) dC))))))),I,I,nt⟩
 refine qK (zH (zQ (zQ (zF ?_))));replace dc:=dc.mono (dv.trans eh);refine lX (xB yE pH dc) λzy ss=>?_;replace db:=db.mono (dv.trans eh);refine lX (xB yE pH db) λzx sr=>(cL (ev2 I I) call17 (λw hs=>tG hs ss sr oM) λrv h3 du sq=>?_);obtain rfl:rv=vI (xT lo hi):=sq;have tu:=jA lo hi;refine gv (rJ (q:=0) I I) I (yB (zH ?_));refine cnd (λfc=>?_) λfc=>?_
 ·
  refine zK2 (e':=[(6,_)]) ⟨I,trivial⟩ (zQ (zF (lX (xV (ρ:=(rpP (tLs 1) (rpP rpV (rpS (rpP rpI (rpP rpI (rpQ 1))))))) (xZ (ps':=[]) underlying39 qS I I (rH underlying39) trivial I (yC wG (yC gV wG)) zO)) λzw sp=>?_)));replace bi:=bi.mono ((dv.trans eh).trans du);refine zW (A:=[]) (uB sizeOf39 pH bi sp) λul ll=>(asg (v:=vI (9)) I I (yB (zH (lG (nG ?_)))));obtain⟨e1,e2,e3⟩:=pr_9 gg (Classical.not_not.1 dx) fc;rw[e1,e2,e3];refine aR 53 14 ?_;have kl:=RL.nil (ρ:=rpP (tPl (1000*k+1000*l1+1000*l2+2000) (1000*k+1000*l1+1000*l2+2000)) (rpP tII qI)) (h:=h3);refine wT (kJ (t:=6) jB mh1 I ll) ?_;intro va iq jz;refine kO (.cons_cons _ (List.nil_sublist _)) (λE S=>jS I iq (tE I) E S) ?_;exact⟨_,_,_,I,(Rp.Is.le jz (Le.p (Le.s (Le.t (Le.q (l:=k+l1+l2+20) oM))) (Le.p (Le.refl _) (Le.s (Le.p (Le.refl _) (Le.p (Le.refl _) (Le.q (l:=5) dC))))))),I,I,kl⟩
 refine qK (zH (zQ (zF (nA (ρ:=(rpP rpV (rpP rpV (rpS (rpP rpI (rpP rpI (rpQ 1))))))) (X:=((Value.slice none 0 0),((Value.slice none 0 0),[]))) qS (yC gV (yC gV wG)) λaa eb oe=>(yB (zH (zQ (zF (asg I I (yB (zH (zQ (zF ?_)))))))))))));refine asg I I (yB (zH (zQ (zF (asg I I (yB (zH (zQ (zQ (zF (asg (v:=vI (0)) I I (yB (zH ?_)))))))))))));refine vQ (xG 118 2 ?_);have kk:=RL.nil (ρ:=rpA 2 rpI) (h:=h3);refine xG 31 9 ?_;have kj:=RL.nil (ρ:=rpT (rpQ (k+1))) (h:=h3);refine xG 22 1 ?_;have ki:=RL.nil (ρ:=rpS rpI) (h:=h3);refine gcL (ι:=Nat×List (List Int)×List Tq×List (List Int)×Value×List Value×Value×List Value×Value×List Value×Mem) (λ(i,ED,J,II,ad,au,D,bc,C,aw,ma)=>(MLe h3 ma/\(RL (rpA 2 rpI) ma au ED/\RL (tPt (k+1)) ma bc J/\RL (rpS rpI) ma aw II/\i<=L.length/\ED.length=eU L i/\J=ptB L i/\II=ptN L i),[(0,vL),(4,vP b4 0),(5,vP b5 0),(6,vP b6 0),(10,vP aa 0),(11,ad),(12,D),(13,C),(14,vI ↑i)],[.gs 22 1 C II.length aw,.gs 31 9 D J.length bc,.gs 118 2 ad ED.length au,.var aa 39 eb,.var b6 39 dy,.var b5 29 dz,.var b4 29 ea],ma,L.length-i)) (0,[],[],[],(.slice none 0 0),[],(.slice none 0 0),[],(.slice none 0 0),[],h3) ?_ ?_
 · exact⟨mle,kk,kj,ki,by omega,I,I,I⟩
 rintro⟨i,ED,J,II,ad,au,D,bc,C,aw,ma⟩ ⟨cf,kh,aj,ac,tr,rm,bj,ch⟩
 refine yW ?_;have tv:=zJ0 L i;have re:=lw i tr;have hIl:II.length=i:=by rw[ch];exact yY _ _
 rw[<-bj] at tv;refine zQ (zQ (zF (mv I I (mv I I ?_))));replace rL:=rL.mono ((eh.trans du).trans cf);refine gv (uY underlying76 I rL) I (gv (yJ I I) I (yB (zH ?_)));refine cnd (λrk=>?_) λrk=>?_
 ·
  refine qK (zH (zQ (vQ (zQ (zF (asg I I (yB (zH (zQ (zQ (zF (asg (v:=vI (0)) I I (yB ?_)))))))))))));refine zH (vQ (xG 3 1 ?_));have kg:=RL.nil (ρ:=rpI) (h:=ma);refine gcL (ι:=Nat×List Tq×List Int×Value×List Value×Value×List Value×Mem) (λ(q,B2,LN,M,bk,bd,dk,mb)=>(MLe ma mb/\(RL (tPt (k+1)) mb bk B2/\RL rpI mb dk LN/\q<=(L.getD i []).length/\B2=plB (ptB L i) (L.getD i []) q/\LN=plN (ptB L i) (L.getD i []) q),[(0,vL),(4,vP b4 0),(5,vP b5 0),(6,vP b6 0),(10,vP aa 0),(11,ad),(12,M),(13,C),(14,vI ↑i),(15,bd),(16,vI ↑q)],[.gs 3 1 bd LN.length dk,.gs 22 1 C II.length aw,.gs 31 9 M B2.length bk,.gs 118 2 ad ED.length au,.var aa 39 eb,.var b6 39 dy,.var b5 29 dz,.var b4 29 ea],mb,(L.getD i []).length-q)) (0,J,[],D,bc,(.slice none 0 0),[],ma) ?_ ?_
  · exact⟨mle,aj,kg,by omega,by rw[bj];rfl,I⟩
  rintro⟨q,B2,LN,M,bk,bd,dk,mb⟩ ⟨ji,ai,bg,hq1,ff,iy⟩
  refine yW ?_;have tw:=zJ2 (ptB L i) (L.getD i []) q;rw[<-ff,<-bj] at tw;have uc:LN.length=q:=by rw[iy];exact yY _ _
  have io:=dt.2 i oM;refine zQ (zQ (zF (mv I I (mv I I (mv I I ?_)))));replace rL:=rL.mono ji;refine lX (xI [] i underlying76 uO rL) λzv so=>(lX (xA uO so) λzu sn=>(gv (uY underlying35 I sn) I (gv (yJ I I) I (yB (zH ?_)))));refine cnd (λrj=>?_) λrj=>?_
  ·
   refine qK (zH (zQ (vQ (zQ (zF (asg (v:=vI (-1)) I I (yB (zH (zQ (zQ (zF (asg (v:=vI (0)) I I (yB ?_)))))))))))));refine zH (vQ ?_);refine gcL (ι:=Nat×Mem) (λ(j,mj)=>(MLe mb mj/\(j<=B2.length),[(0,vL),(4,vP b4 0),(5,vP b5 0),(6,vP b6 0),(10,vP aa 0),(11,ad),(12,M),(13,C),(14,vI ↑i),(15,bd),(16,vI ↑q),(17,vI (y4 B2 ((L.getD i []).getD q zT) j)),(18,vI ↑j)],[.gs 3 1 bd LN.length dk,.gs 22 1 C II.length aw,.gs 31 9 M B2.length bk,.gs 118 2 ad ED.length au,.var aa 39 eb,.var b6 39 dy,.var b5 29 dz,.var b4 29 ea],mj,B2.length-j)) (0,mb) ?_ ?_
   · exact⟨mle,oM⟩
   rintro⟨j,mj⟩ ⟨cp,rd⟩
   refine yW ?_;have hj1:=rd;have hfr:=zG1 B2 ((L.getD i []).getD q zT) j;refine zQ (zQ (zF (mv I I (mv I I (gv (jZ mh2 underlying35 I) I (gv (yJ I I) I (yB (zH ?_))))))));refine cnd (λri=>?_) λri=>?_
   ·
    refine qK (zH (zQ (vQ (zQ ?_))));refine zK 30 _ [] [(0,.q),(1,.q),(2,.q),(3,.q),(4,.q),(5,.q),(6,.q),(7,.q),(8,.q),(9,.q),(10,.q),(11,.q),(12,.q),(13,.c),(14,.q),(15,.q),(16,.q),(17,.q),(18,.q),(19,.q),(20,.q),(21,.q),(22,.q),(23,.q),(24,.q),(25,.q),(26,.q),(27,.q),(28,.c),(29,.q)] yA nX (wJ zou) nX (λr hr=>hr) (qQ I I I (qQ I I I (w_q I (λh' L' hh hR=>(yU j (hR _ mh2) underlying35 sizeOf31 I I I bO nP).cv (show _=zI 1 M ((j*9+0)) from congrArg (zI 1 M) zo3)) I ?_)));replace ai:=ai.mono cp;refine w_q I (λh' L' hh hR=>(sT (sz:=3) (q:=0) 0 (Pc.arr (Pc.here _) zT j bO) I nP (ai.mono hh) (hR _ mh2) underlying31 sizeOf29 I I I dC).cv (show _=zI 1 M ((j*9+0)) from congrArg (zI 1 M) (by show(j*9+0)+0*3=(j*9+0);omega))) I (aD (F:=λv_=>(rpQ (k+1)).Is mj v_ ((B2.getD j zT).x)) I (wM yE (Pc.arr (Pc.tx (Pc.here _)) zT j bO) I nP I ai I) (tQ mh2) I ?_);intro zt sm;refine qQ I I I (qQ I I I ?_);replace rL:=rL.mono cp;refine wX I (xI [] i underlying76 uO rL) λzs sl=>(wX I (xA uO sl) λzr sk=>(qQ I I I (wX I (xI zT q underlying35 zM sk) λzq sj=>(aD (F:=λv_=>AtP (rpQ k) mj v_ (((L.getD i []).getD q zT).x)) I (zIJ (q:=0) 0 underlying31 sizeOf29 (Pc.tx (Pc.here _)) I I I sj I dC I) zBN I ?_))));intro zp si;refine wX I (xA yE si) λzo sf=>?_;refine w_c I (sC (ev2 I I) call73 (λw hs=>sH hs sm sf oM) λru h4 aq se=>?_);obtain rfl:ru=vB (((B2.getD j zT).x)=(((L.getD i []).getD q zT).x)):=se;refine qQ I I I ?_;refine jH (((B2.getD j zT).x)=(((L.getD i []).getD q zT).x)) (λel=>?_) (λel=>?_)
    ·
     rw[xM el];refine yS I I I (λh' L' hh hR=>yZ I) I (yS I I I (λh' L' hh hR=>yZ I) I (yS I I I (λh' L' hh hR=>(yU j (hR _ mh2) underlying35 sizeOf31 I I I bO nP).cv (show _=zI 1 M ((j*9+0)) from congrArg (zI 1 M) zo3)) I ?_));replace ai:=ai.mono aq;refine yS I I I (λh' L' hh hR=>(sT (sz:=3) (q:=1) 1 (Pc.arr (Pc.here _) zT j bO) I nP (ai.mono hh) (hR _ mh2) underlying31 sizeOf29 I I I dC).cv (show _=zI 1 M ((j*9+3)) from congrArg (zI 1 M) (by show(j*9+0)+1*3=(j*9+3);omega))) I (lQ (F:=λv_=>(rpQ (k+1)).Is h4 v_ ((B2.getD j zT).y)) I I I (wM yE (Pc.arr (Pc.ty (Pc.here _)) zT j bO) I nP I ai I) (tQ mh2) I ?_);intro zn sd;refine yS I I I (λh' L' hh hR=>yZ I) I (yS I I I (λh' L' hh hR=>yZ I) I ?_);replace rL:=rL.mono aq;refine oX I (xI [] i underlying76 uO rL) λzm sc=>(oX I (xA uO sc) λzl sb=>(yS I I I (λh' L' hh hR=>yZ I) I (oX I (xI zT q underlying35 zM sb) λzk sa=>(lQ (F:=λv_=>AtP (rpQ k) h4 v_ (((L.getD i []).getD q zT).y)) I I I (zIJ (q:=1) 1 underlying31 sizeOf29 (Pc.ty (Pc.here _)) I I I sa I dC I) zBN I ?_))));intro zj ry;refine oX I (xA yE ry) λyh qw=>?_;refine w_c I (zA6 I I (sC (ev2 I I) call73 (λw hs=>sH hs sd qw oM) λnr h5 cm qv=>?_));obtain rfl:nr=vB (((B2.getD j zT).y)=(((L.getD i []).getD q zT).y)):=qv;refine wI I (λ_ _=>cT I I) I (cK (vO (e':=[(0,_),(4,_),(5,_),(6,_),(10,_),(11,_),(12,_),(13,_),(14,_),(15,_),(16,_),(17,_),(18,_),(102,_)]) ⟨I,I,I,I,I,I,I,I,I,I,I,I,I,I,trivial⟩ (zH ?_)));refine cnd (λeo=>?_) λeo=>?_
     ·
      refine zF (mv I I (asg I I (yB (rK (zH (zF (mv I I (gv (zR (q:=1) I I oM oM) I (asg I I (yB ?_))))))))));refine gqL ((j+1),h5) ?_ ?_ (he:=⟨I,I,I,I,I,I,I,I,I,I,I,congrArg (λz=>some (vI z)) (fd_t ⟨by assumption,eo⟩),I,trivial⟩)
      · exact⟨mle,oM⟩
      omega
     refine qK (rK (zH (zF (mv I I (gv (zR (q:=1) I I oM oM) I (asg I I (yB ?_)))))));refine gqL ((j+1),h5) ?_ ?_ (he:=⟨I,I,I,I,I,I,I,I,I,I,I,congrArg (λz=>some (vI z)) (yH9 (λe=>eo e.2)),I,trivial⟩)
     · exact⟨mle,oM⟩
     omega
    rw[yH el];refine vW I I I I I (vW I I I I I (vW I I I I I (vW I I I I I (vW I I I I I (vW I I I I I (vW I I I I I (vW I I I I I (vW I I I I I (vW I I I I I (vW I I I I I (vW I I I I I (vW I I I I I ?_))))))))))));refine w_c I (lW I I I I (wI I (λ_ _=>cV I I) I (cK (vO (e':=[(0,_),(4,_),(5,_),(6,_),(10,_),(11,_),(12,_),(13,_),(14,_),(15,_),(16,_),(17,_),(18,_),(102,_)]) ⟨I,I,I,I,I,I,I,I,I,I,I,I,I,I,trivial⟩ (zH (zI5 I (qK (rK (zH (zF (mv I I (gv (zR (q:=1) I I oM oM) I (asg I I ?_)))))))))))));refine yB ?_;refine gqL ((j+1),h4) ?_ ?_ (he:=⟨I,I,I,I,I,I,I,I,I,I,I,congrArg (λz=>some (vI z)) (yH9 (λe=>absurd e.1 zo4)),I,trivial⟩)
    · exact⟨mle,oM⟩
    omega
   refine fI (qE (qE (fH (zH (zQ (zQ (zF (mv I I (gv (yJ (q:=0) I I) I (yB (zH ?_)))))))))));refine cnd (λen=>?_) λen=>?_
   ·
    have ej:j=B2.length:=by omega
    have dw:fdZ B2 ((L.getD i []).getD q zT)<0:=by unfold fdZ;rw[<-ej];exact en
    refine zQ (zF (mv I I (gv (jZ mh2 underlying35 I) I (asg I I (yB (zH (zF (mv I I (mv I I (mv I I ?_))))))))));replace rL:=rL.mono cp;refine lX (xI [] i underlying76 uO rL) λyg qu=>(lX (xA uO qu) λyf qt=>(mv I I (lX (xI zT q underlying35 zM qt) λye qs=>(lX (xA zM qs) λyd qr=>(zG (zL (ρ:=(tPt (k+1))) (m:=1) (xs:=[((L.getD i []).getD q zT)]) (ps':=[(0,_)]) underlying35 yM I I I (xO (yI oM)) e2z (zD I (Pc.arr (Pc.here _) zT 0 dC) (qr.le (Le.t (Le.q (l:=k+1) oM))) zO) zok nP) I I I ?_)))))
    rintro yc yx ⟨ux,rfl,lc⟩
    refine zP (A:=[]) (ρ:=(tPt (k+1))) lc ?_;intro h4 aq jx;replace ai:=ai.mono (cp.trans aq);refine xL (A:=[_,_]) (vX (zU (ρ:=(tPt (k+1))) (bytes:=168) underlying35 yM I I I I nP I I ai jx bO bO)) I I I ?_
    rintro nq yw ⟨tl,ne,rfl,lb⟩
    refine asg I I (yB (vO (e':=[(0,_),(4,_),(5,_),(6,_),(10,_),(11,_),(13,_),(14,_),(15,_),(16,_),(17,_),(12,_)]) e12 (zH (zF (mv I I (mv I I (zG (zL (ρ:=rpI) (m:=1) (xs:=[(↑B2.length:Int)]) (ps':=[(0,_)]) underlying22 jV I I I wL e2z (zD I (Pc.arr (Pc.here _) (0:Int) 0 dC) (wH oM oM) zO) zoj nP) I I I ?_)))))))
    rintro np ra ⟨nd,rfl,eg⟩
    refine zP (A:=[]) (ρ:=rpI) eg ?_;intro h5 cm jw;replace bg:=bg.mono ((cp.trans aq).trans cm);refine xL (A:=[]) (vX (zU (ρ:=rpI) (bytes:=8) underlying22 jV I I I I nP I I bg jw bO bO)) I I I ?_
    rintro fk qz ⟨lv,ew,rfl,ee⟩
    refine asg I I (yB (rK (zH (zF (mv I I (gv (zR (q:=1) I I oM oM) I (asg I I (yB ?_))))))));refine gqL ((q+1),(B2++[((L.getD i []).getD q zT)]),(LN++[(↑B2.length:Int)]),nq,ne,fk,ew,h5) ?_ ?_
    · exact⟨mle,lb.up,ee,by omega,by rw[ff] at dw ⊢;exact(if_pos dw).symm,by rw[iy,show(↑B2.length:Int)=adN (plB (ptB L i) (L.getD i []) q) ((L.getD i []).getD q zT) from by rw[ff] at dw ⊢;exact(if_pos dw).symm];rfl⟩
    omega
   have ej:j=B2.length:=by omega
   have dw:¬fdZ B2 ((L.getD i []).getD q zT)<0:=by unfold fdZ;rw[<-ej];exact en
   refine qK (zH (zF (mv I I (mv I I (zG (zL (ρ:=rpI) (m:=1) (xs:=[(y4 B2 ((L.getD i []).getD q zT) j)]) (ps':=[(0,_)]) underlying22 jV I I I wL e2z (zD I (Pc.arr (Pc.here _) (0:Int) 0 dC) (wH oM oM) zO) zoj nP) I I I ?_)))))
   rintro np ra ⟨nd,rfl,eg⟩
   refine zP (A:=[]) (ρ:=rpI) eg ?_;intro h4 aq jv;replace bg:=bg.mono (cp.trans aq);refine xL (A:=[]) (vX (zU (ρ:=rpI) (bytes:=8) underlying22 jV I I I I nP I I bg jv bO bO)) I I I ?_
   rintro fk qz ⟨lv,ew,rfl,ee⟩
   refine asg I I (yB (rK (vO (e':=[(0,_),(4,_),(5,_),(6,_),(10,_),(11,_),(12,_),(13,_),(14,_),(16,_),(15,_)]) ⟨I,I,I,I,I,I,I,I,I,I,I,trivial⟩ (zH (zF (mv I I (gv (zR (q:=1) I I oM oM) I (asg I I (yB ?_)))))))));refine gqL ((q+1),B2,(LN++[(y4 B2 ((L.getD i []).getD q zT) j)]),M,bk,fk,ew,h4) ?_ ?_
   · exact⟨mle,ai.up,ee,by omega,by rw[ff] at dw ⊢;exact(if_neg dw).symm,by rw[iy,show y4 B2 ((L.getD i []).getD q zT) j=adN (plB (ptB L i) (L.getD i []) q) ((L.getD i []).getD q zT) from by rw[ej,ff] at *;exact(if_neg dw).symm];rfl⟩
   omega
  have ek:q=(L.getD i []).length:=by omega
  refine fI (qE (qE (fH (zH (zQ (zF (mv I I (mv I I (zP (A:=[]) (ρ:=rpI) bg ?_)))))))));intro h4 aq be;refine zG (zL (ρ:=(rpS rpI)) (m:=1) (xs:=[LN]) (ps':=[(0,_)]) underlying51 qX I I I wG e2z (zD I (Pc.arr (Pc.here _) [] 0 dC) be zO) zoj nP) I I I ?_
  rintro yb yv ⟨uw,rfl,la⟩
  refine zP (A:=[]) (ρ:=(rpS rpI)) la ?_;intro h5 cm ju;replace ac:=ac.mono ((ji.trans aq).trans cm);refine xL (A:=[]) (vX (zU (ρ:=(rpS rpI)) (bytes:=24) underlying51 qX I I I I nP I I ac ju bO bO)) I I I ?_
  rintro fj yu ⟨tk,gt,rfl,kz⟩
  refine asg I I (yB (vO (e':=[(0,_),(4,_),(5,_),(6,_),(10,_),(11,_),(12,_),(14,_),(15,_),(13,_)]) e10 (zH (zQ (zF (asg (v:=vI (0)) I I (yB (zH (vQ ?_)))))))));refine gcL (ι:=Nat×List (List Int)×Value×List Value×Mem) (λ(e,E2,bu,dj,me)=>(MLe h5 me/\(RL (rpA 2 rpI) me dj E2/\e<=LN.length/\E2.length=eU L i+e),[(0,vL),(4,vP b4 0),(5,vP b5 0),(6,vP b6 0),(10,vP aa 0),(11,bu),(12,M),(13,fj),(14,vI ↑i),(15,bd),(19,vI ↑e)],[.gs 22 1 fj (II++[LN]).length gt,.gs 31 9 M B2.length bk,.gs 118 2 bu E2.length dj,.var aa 39 eb,.var b6 39 dy,.var b5 29 dz,.var b4 29 ea],me,LN.length-e)) (0,ED,ad,au,h5) ?_ ?_
  · exact⟨mle,kh.up,by omega,rm⟩
  rintro⟨e,E2,bu,dj,me⟩ ⟨rc,cw,rf,ue⟩
  refine yW ?_;have io:=dt.2 i oM;refine zQ (zQ (zF (mv I I (mv I I ?_))));replace be:=be.mono (cm.trans rc);refine gv (uY underlying22 I be) I (gv (yJ I I) I (yB (zH ?_)));refine cnd (λmi=>?_) λmi=>?_
  ·
   refine qK (zH (zQ (vQ ?_)));refine qG (A:=[_,_]) 17 [] [(0,.q),(1,.q),(2,.q),(3,.q),(4,.q),(5,.q),(6,.q),(7,.q),(8,.q),(9,.q),(10,.q),(11,.q),(12,.q),(13,.q),(14,.c),(15,.c),(16,.q)] yA nX (wJ zou) nX (qQ I I I (qQ I I I (qQ I I I (wX I (xI (0:Int) e underlying22 ty3 be) λya qp=>(wX I (xA ty3 qp) λxz qo=>?_)))));obtain⟨rfl,tq,td⟩:=kS qo;refine qQ I I I (qQ I I I (wI I (λ_ _=>zR (q:=1) I I oM oM) I (qQ I I I (w_q I (λh' L' hh hR=>uY underlying22 I (be.mono hh)) I (wI I (λ_ _=>wC I I oM oM) I (wX I (xI (0:Int) ((e+1)%LN.length) underlying22 ty3 be (hi:=by exact Nat.mod_lt _ oM)) λxy qn=>(wX I (xA ty3 qn) λxx qm=>?_)))))));obtain⟨rfl,tp,tc⟩:=kS qm;refine wX I (xV (ρ:=(rpA 2 rpI)) (wB (ps':=[(0,_),(1,_)]) underlying118 dU I I sizeOf3 e4z I (zLD 2 wL) (zD I (Pc.arr (Pc.here _) (0:Int) 0 dC) (wH oM oM) (zD I (Pc.arr (Pc.here _) (0:Int) 1 dC) (wH oM oM) zO)))) λxw ql=>?_;refine w_c I (jN (λX=>zL (ρ:=(rpA 2 rpI)) (m:=1) (xs:=[[(LN.getD e (0:Int)),(LN.getD ((e+1)%LN.length) (0:Int))]]) (ps':=[(0,_)]) underlying117 dU I I I (zLD 2 wL) e2z (zD I (Pc.arr (Pc.here _) (List.replicate 2 (0:Int)) 0 dC) ql zO) (show 1*2<=16777216 from by decide) nP) I ?_)
   rintro xv yt ⟨uv,rfl,ky⟩
   refine w_c I (xS (A:=[]) (ρ:=(rpA 2 rpI)) ky dK ?_);intro h6 dd jt;replace cw:=cw.mono dd;refine fF (A:=[_,_]) (λX=>vX (zU (ρ:=(rpA 2 rpI)) (bytes:=16) underlying117 dU I I I I nP I I cw jt bO bO)) I (xJ zoy) ?_
   rintro no ys ⟨tj,nc,rfl,kx⟩
   refine zLH I I I (cK (rK (vO (e':=[(0,_),(4,_),(5,_),(6,_),(10,_),(12,_),(13,_),(14,_),(15,_),(19,_),(11,_)]) ⟨I,I,I,I,I,I,I,I,I,I,I,trivial⟩ (zH (zF (mv I I (gv (zR (q:=1) I I oM oM) I (asg I I (yB ?_)))))))));refine gqL ((e+1),(E2++[[(LN.getD e (0:Int)),(LN.getD ((e+1)%LN.length) (0:Int))]]),no,nc,h6) ?_ ?_
   · exact⟨mle,kx,by omega,by rw[lAz,ue];rfl⟩
   omega
  have ud:E2.length=eU L i+LN.length:=by omega
  refine fI (qE (qE (fH (rK (zH (zF (mv I I (gv (zR (q:=1) I I oM oM) I (asg I I (yB ?_))))))))));refine gqL ((i+1),E2,B2,(II++[LN]),bu,dj,M,bk,fj,gt,me) ?_ ?_
  · exact⟨mle,cw,ai.up,kz.up,by omega,by rw[ud,uc,ek];rfl,by rw[ff,ek];rfl,by rw[ch,iy,ek];rfl⟩
  omega
 have ei:i=L.length:=by omega
 have ts:=lw L.length oM;rw[ei] at rm bj ch;have hI1:II.length=L.length:=by rw[ch];exact yY _ _
 have mm:∀i,i<L.length->(II.getD i []).length=(L.getD i []).length:=λi hi=>by rw[ch];exact zK9 hi
 have gb:∀i q,i<L.length->q<(II.getD i []).length->0<=(II.getD i []).getD q 0/\(II.getD i []).getD q 0<↑J.length:=λi q hi hq=>by rw[ch] at hq ⊢;rw[bj];exact zN1 hi hq
 refine fI (qE (qE (fH (zH (zQ (zF (mv I I (gv (jZ mh1 underlying35 I) I (asg I I (yB (zH (zQ (zQ ?_)))))))))))));refine zF (mv I I (gv (gP (p:=2) I I oM oM) I (gv (mH (q:=512) I I) I ?_)));refine gU 6 158 (vB (((512:Int)<((2:Int)*(↑J.length:Int)))\/((256:Int)<((↑ED.length:Int)+(2:Int))))) ?_ ?_
 ·
  refine zY ((512:Int)<((2:Int)*(↑J.length:Int))) (λhg=>?_) (λhg=>?_)
  ·
   refine gT hg I (nS I I I I I I (nS I I I I I I (nS I I I I I I (nS I I I I I I (gv (cT I I) I (yB (gqU ?_)))))));exact congrArg some (vD hg)
  refine gF hg I (u6 I I I (mv I I (u6 I I I (gv (jZ mh2 underlying117 I) I (u6 I I I (gv (zR (q:=2) I I oM oM) I (u6 I I I (gv (mH (q:=256) I I) I (gv (cV I I) I (yB (gqU ?_)))))))))));exact congrArg some (vG hg)
 refine yB (zH ?_);refine cnd (λmh=>?_) λmh=>?_
 ·
  have ls:prB L:=by unfold prB;show 512<2*(ptB L L.length).length\/_;rw[<-bj];omega
  refine zQ (zF (lX (xV (ρ:=(rpP (tLs 1) (rpP rpV (rpS (rpP rpI (rpP rpI (rpQ 1))))))) (xZ (ps':=[]) underlying39 qS I I (rH underlying39) trivial I (yC wG (yC gV wG)) zO)) λxu qk=>?_));replace bi:=bi.mono (((dv.trans eh).trans du).trans cf);refine zW (A:=[_,_,_,_]) (uB sizeOf39 pH bi qk) λuk lk=>(asg (v:=vI (2)) I I (yB (zH (lG (nG ?_)))));obtain⟨e1,e2,e3⟩:=pr_2 gg (Classical.not_not.1 dx) fc ls;rw[e1,e2,e3];refine aR 53 14 ?_;have kf:=RL.nil (ρ:=rpP (tPl (1000*k+1000*l1+1000*l2+2000) (1000*k+1000*l1+1000*l2+2000)) (rpP tII qI)) (h:=ma);refine wT (kJ (t:=6) jB mh5 I lk) ?_;intro uy ip jy;refine kO (.cons_cons _ (List.nil_sublist _)) (λE S=>jS I ip (tE I) E S) ?_;exact⟨_,_,_,I,(Rp.Is.le jy (Le.p (Le.s (Le.t (Le.q (l:=k+l1+l2+20) oM))) (Le.p (Le.refl _) (Le.s (Le.p (Le.refl _) (Le.p (Le.refl _) (Le.q (l:=5) dC))))))),I,I,kf⟩
 have ls:¬prB L:=by unfold prB;show ¬(512<2*(ptB L L.length).length\/_);rw[<-bj];omega
 obtain⟨rh,rf,tt⟩:=yKM gg (Classical.not_not.1 dx) fc ls;refine qK (zH (zQ (zQ (zF (asg (v:=vI (0)) I I (yB (zH (vQ (xG 31 9 ?_)))))))));have ke:=RL.nil (ρ:=rpT (rpQ (k+l1+l2+5))) (h:=ma);refine gcL (ι:=Nat×List Tq×List Value×Value×List Value×Mem) (λ(i,PP,cl,cb,er,mp)=>(MLe ma mp/\((rpP rpV (rpP rpV (rpS (rpP rpI (rpP rpI (rpQ 1)))))).R mp cl (cb,(Value.slice none 0 0,[]))/\RL (tPt (k+l1+l2+5)) mp er PP/\cb.oneCell'=true/\i<=2*J.length/\PP=zS3 L lo hi i),[(4,vP b4 0),(5,vP b5 0),(6,vP b6 0),(10,vP aa 0),(12,D),(13,C),(20,vI (↑J.length:Int)),(21,vI ↑i)],[.gs 31 9 cb PP.length er,.gs 22 1 C II.length aw,.gs 31 9 D J.length bc,.gs 118 2 ad ED.length au,.var aa 39 cl,.var b6 39 dy,.var b5 29 dz,.var b4 29 ea],mp,2*J.length-i)) (0,[],eb,(.slice none 0 0),[],ma) ?_ ?_
 · exact⟨mle,oe.up,ke,I,by omega,I⟩
 rintro⟨i,PP,cl,cb,er,mp⟩ ⟨bs,ao,bf,th,hi2,ix⟩
 refine yW ?_;have hPl:PP.length=i:=by rw[ix];exact yY _ _
 refine zQ (zQ (zF (mv I I (mv I I (gv (gP (p:=2) I I oM oM) I (gv (yJ I I) I (yB (zH ?_))))))));refine cnd (λmg=>?_) λmg=>?_
 ·
  refine qK (zH (zQ (vQ (zQ (zF ?_)))));replace dc:=dc.mono ((du.trans cf).trans bs);refine lX (xB yE pH dc) λxt qj=>(nA (ρ:=(rpQ 1)) (X:=(0:Rat)) xR (yI dC) λb22 zg od=>?_);have jp:=(Le.q (l:=l1+1) oM).R od;refine zW (A:=[]) (uB sizeOf29 pH jp (qj.le (Le.q (l:=l1+1) oM))) λuj fl=>(yB (zH (zQ (zQ (zF (mv I I (mv I I (gv (rJ I I) I (yB (zH ?_))))))))));refine cnd (λem=>?_) λem=>?_
  ·
   refine zF ?_;replace db:=db.mono ((du.trans cf).trans bs);refine lX (xB yE pH db) λxr qi=>?_;have jo:=(Le.q (l:=l1+l2+1) oM).R fl;refine zW (A:=[]) (uB sizeOf29 pH jo (qi.le (Le.q (l:=l1+l2+1) oM))) λui lj=>(yB (zH ?_));refine qG (A:=[_]) 21 [] [(0,.q),(1,.q),(2,.q),(3,.q),(4,.q),(5,.q),(6,.q),(7,.q),(8,.q),(9,.q),(10,.q),(11,.q),(12,.q),(13,.q),(14,.q),(15,.q),(16,.q),(17,.q),(18,.c),(19,.c),(20,.q),(21,.t)] yA nX (wJ zou) nX (wI I (λ_ _=>(xU underlying39 I sizeOf35 I).cv (show _=vP aa 0 from congrArg (vP aa) zo3)) I (wX I (tX (xB uO (Pc.fst pH) ao)) λnn fy=>?_));subst fy;refine qQ I I I (qQ I I I (qQ I I I (wI I (λ_ _=>wC I I oM oM) I (w_q I (λh' L' hh hR=>(yU (i%J.length) (hR _ mh2) underlying35 sizeOf31 I I rP (by exact Nat.mod_lt _ oM) nP).cv (show _=zI 1 D (((i%J.length)*9+0)) from congrArg (zI 1 D) zo3)) I ?_))));replace aj:=aj.mono bs;refine w_q I (λh' L' hh hR=>(sT (sz:=3) (q:=0) 0 (Pc.arr (Pc.here _) zT (i%J.length) (by exact Nat.mod_lt _ oM)) I nP (aj.mono hh) (hR _ mh2) underlying31 sizeOf29 I I I dC).cv (show _=zI 1 D (((i%J.length)*9+0)) from congrArg (zI 1 D) (by show((i%J.length)*9+0)+0*3=((i%J.length)*9+0);omega))) I (aD (F:=λv_=>(rpQ (k+1)).Is mp v_ ((J.getD (i%J.length) zT).x)) I (wM yE (Pc.arr (Pc.tx (Pc.here _)) zT (i%J.length) (by exact Nat.mod_lt _ oM)) I nP I aj I) (tQ mh2) I ?_);intro nm fx;refine qQ I I I (qQ I I I (qQ I I I (wI I (λ_ _=>wC I I oM oM) I (w_q I (λh' L' hh hR=>(yU (i%J.length) (hR _ mh2) underlying35 sizeOf31 I I rP (by exact Nat.mod_lt _ oM) nP).cv (show _=zI 1 D (((i%J.length)*9+0)) from congrArg (zI 1 D) zo3)) I (w_q I (λh' L' hh hR=>(sT (sz:=3) (q:=1) 1 (Pc.arr (Pc.here _) zT (i%J.length) (by exact Nat.mod_lt _ oM)) I nP (aj.mono hh) (hR _ mh2) underlying31 sizeOf29 I I I dC).cv (show _=zI 1 D (((i%J.length)*9+3)) from congrArg (zI 1 D) (by show((i%J.length)*9+0)+1*3=((i%J.length)*9+3);omega))) I (aD (F:=λv_=>(rpQ (k+1)).Is mp v_ ((J.getD (i%J.length) zT).y)) I (wM yE (Pc.arr (Pc.ty (Pc.here _)) zT (i%J.length) (by exact Nat.mod_lt _ oM)) I nP I aj I) (tQ mh2) I ?_))))));intro nl fw;refine wX I (xB yE pH lj) λnk fv=>(wX I (xV (ρ:=(tPt (k+l1+l2+1))) (wB (ps':=[(0,_),(1,_),(2,_)]) underlying31 yM I I sizeOf29 e6z I (xO (yI oM)) (zD I (Pc.tx (Pc.here _)) (fx.le (Le.q (l:=k+l1+l2+1) oM)) (zD I (Pc.ty (Pc.here _)) (fw.le (Le.q (l:=k+l1+l2+1) oM)) (zD I (Pc.tz (Pc.here _)) (fv.le (Le.q (l:=k+l1+l2+1) oM)) zO))))) λnj fu=>?_);refine w_c I (jN (λX=>zL (ρ:=(tPt (k+l1+l2+1))) (m:=1) (xs:=[(T3.mk ((J.getD (i%J.length) zT).x) ((J.getD (i%J.length) zT).y) hi)]) (ps':=[(0,_)]) underlying35 yM I I I (xO (yI oM)) e2z (zD I (Pc.arr (Pc.here _) zT 0 dC) fu zO) zok nP) I ?_)
   rintro ni qy ⟨nb,rfl,ed⟩
   refine w_c I (xS (A:=[]) (ρ:=(tPt (k+l1+l2+1))) ed dK ?_);intro h4 aq js;replace bf:=bf.mono aq;refine fF (A:=[_]) (λX=>vX (zU (ρ:=(tPt (k+l1+l2+5))) (bytes:=168) underlying35 yM I I I I nP I I bf (js.le (Le.s (Le.t (Le.q (l:=k+l1+l2+5) oM)))) bO bO)) I (xJ zoy) ?_
   rintro fi qx ⟨ce,ev,rfl,ec⟩
   refine wI I (λ_ _=>(xU underlying39 I sizeOf35 I).cv (show _=vP aa 0 from congrArg (vP aa) zo3)) I ?_;replace ao:=ao.mono aq;refine yK (A:=[_,_,_,_,_]) I (uB sizeOf35 (Pc.fst pH) ao (oS ce)) λmy li=>(cK (rK (vO (e':=[(4,_),(5,_),(6,_),(10,_),(12,_),(13,_),(20,_),(21,_)]) e8 (zH (zF (mv I I (gv (zR (q:=1) I I oM oM) I (asg I I (yB (yO (A:=[]) ?_))))))))));refine gqL ((i+1),(PP++[(T3.mk ((J.getD (i%J.length) zT).x) ((J.getD (i%J.length) zT).y) hi)]),my,fi,ev,h4) ?_ ?_
   · exact⟨mle,li,ec,ce,by omega,by rw[ix,bj];exact congrArg (λz=>zS3 L lo hi i++[T3.mk _ _ z]) (if_pos (by have h9:=em;rw[bj] at h9;exact h9)).symm⟩
   omega
  refine qK (zH ?_);refine qG (A:=[_]) 21 [] [(0,.q),(1,.q),(2,.q),(3,.q),(4,.q),(5,.q),(6,.q),(7,.q),(8,.q),(9,.q),(10,.q),(11,.q),(12,.q),(13,.q),(14,.q),(15,.q),(16,.q),(17,.q),(18,.c),(19,.c),(20,.q),(21,.t)] yA nX (wJ zou) nX (wI I (λ_ _=>(xU underlying39 I sizeOf35 I).cv (show _=vP aa 0 from congrArg (vP aa) zo3)) I (wX I (tX (xB uO (Pc.fst pH) ao)) λnn fy=>?_));subst fy;refine qQ I I I (qQ I I I (qQ I I I (wI I (λ_ _=>wC I I oM oM) I (w_q I (λh' L' hh hR=>(yU (i%J.length) (hR _ mh2) underlying35 sizeOf31 I I rP (by exact Nat.mod_lt _ oM) nP).cv (show _=zI 1 D (((i%J.length)*9+0)) from congrArg (zI 1 D) zo3)) I ?_))));replace aj:=aj.mono bs;refine w_q I (λh' L' hh hR=>(sT (sz:=3) (q:=0) 0 (Pc.arr (Pc.here _) zT (i%J.length) (by exact Nat.mod_lt _ oM)) I nP (aj.mono hh) (hR _ mh2) underlying31 sizeOf29 I I I dC).cv (show _=zI 1 D (((i%J.length)*9+0)) from congrArg (zI 1 D) (by show((i%J.length)*9+0)+0*3=((i%J.length)*9+0);omega))) I (aD (F:=λv_=>(rpQ (k+1)).Is mp v_ ((J.getD (i%J.length) zT).x)) I (wM yE (Pc.arr (Pc.tx (Pc.here _)) zT (i%J.length) (by exact Nat.mod_lt _ oM)) I nP I aj I) (tQ mh2) I ?_);intro nm fx;refine qQ I I I (qQ I I I (qQ I I I (wI I (λ_ _=>wC I I oM oM) I (w_q I (λh' L' hh hR=>(yU (i%J.length) (hR _ mh2) underlying35 sizeOf31 I I rP (by exact Nat.mod_lt _ oM) nP).cv (show _=zI 1 D (((i%J.length)*9+0)) from congrArg (zI 1 D) zo3)) I (w_q I (λh' L' hh hR=>(sT (sz:=3) (q:=1) 1 (Pc.arr (Pc.here _) zT (i%J.length) (by exact Nat.mod_lt _ oM)) I nP (aj.mono hh) (hR _ mh2) underlying31 sizeOf29 I I I dC).cv (show _=zI 1 D (((i%J.length)*9+3)) from congrArg (zI 1 D) (by show((i%J.length)*9+0)+1*3=((i%J.length)*9+3);omega))) I (aD (F:=λv_=>(rpQ (k+1)).Is mp v_ ((J.getD (i%J.length) zT).y)) I (wM yE (Pc.arr (Pc.ty (Pc.here _)) zT (i%J.length) (by exact Nat.mod_lt _ oM)) I nP I aj I) (tQ mh2) I ?_))))));intro nl fw;refine wX I (xB yE pH fl) λnk fv=>(wX I (xV (ρ:=(tPt (k+l1+1))) (wB (ps':=[(0,_),(1,_),(2,_)]) underlying31 yM I I sizeOf29 e6z I (xO (yI oM)) (zD I (Pc.tx (Pc.here _)) (fx.le (Le.q (l:=k+l1+1) oM)) (zD I (Pc.ty (Pc.here _)) (fw.le (Le.q (l:=k+l1+1) oM)) (zD I (Pc.tz (Pc.here _)) (fv.le (Le.q (l:=k+l1+1) oM)) zO))))) λnj fu=>?_);refine w_c I (jN (λX=>zL (ρ:=(tPt (k+l1+1))) (m:=1) (xs:=[(T3.mk ((J.getD (i%J.length) zT).x) ((J.getD (i%J.length) zT).y) lo)]) (ps':=[(0,_)]) underlying35 yM I I I (xO (yI oM)) e2z (zD I (Pc.arr (Pc.here _) zT 0 dC) fu zO) zok nP) I ?_)
  rintro ni qy ⟨nb,rfl,ed⟩
  refine w_c I (xS (A:=[]) (ρ:=(tPt (k+l1+1))) ed dK ?_);intro h4 aq jr;replace bf:=bf.mono aq;refine fF (A:=[_]) (λX=>vX (zU (ρ:=(tPt (k+l1+l2+5))) (bytes:=168) underlying35 yM I I I I nP I I bf (jr.le (Le.s (Le.t (Le.q (l:=k+l1+l2+5) oM)))) bO bO)) I (xJ zoy) ?_
  rintro fi qx ⟨ce,ev,rfl,ec⟩
  refine wI I (λ_ _=>(xU underlying39 I sizeOf35 I).cv (show _=vP aa 0 from congrArg (vP aa) zo3)) I ?_;replace ao:=ao.mono aq;refine yK (A:=[_,_,_,_,_]) I (uB sizeOf35 (Pc.fst pH) ao (oS ce)) λmx lh=>(cK (rK (vO (e':=[(4,_),(5,_),(6,_),(10,_),(12,_),(13,_),(20,_),(21,_)]) e8 (zH (zF (mv I I (gv (zR (q:=1) I I oM oM) I (asg I I (yB (yO (A:=[]) ?_))))))))));refine gqL ((i+1),(PP++[(T3.mk ((J.getD (i%J.length) zT).x) ((J.getD (i%J.length) zT).y) lo)]),mx,fi,ev,h4) ?_ ?_
  · exact⟨mle,lh,ec,ce,by omega,by rw[ix,bj];exact congrArg (λz=>zS3 L lo hi i++[T3.mk _ _ z]) (if_neg (by have h9:=em;rw[bj] at h9;exact h9)).symm⟩
  omega
 have gn:PP=ppZ L lo hi:=by rw[ix,show i=2*J.length by omega,bj];rfl
 have yz:PP.length=2*J.length:=by rw[gn,bj];exact zOV
 refine fI (qE (qE (fH (zH (zQ (zF (zP (A:=[]) (ρ:=(tPt (k+l1+l2+5))) bf ?_)))))));intro h4 aq jq;replace ao:=ao.mono aq;have lg:(rpP (tLs (k+l1+l2+5)) (rpP rpV (rpS (rpP rpI (rpP rpI (rpQ 1)))))).R h4 cl (PP,(cb,(Value.slice none 0 0,[])).2):=yAF ao jq;refine cL (vs:=[vI (1)]) ⟨I,trivial⟩ call27 (λw hs=>kM hs dC dC) λxq h5 cm qh=>(nA (ρ:=(rpQ 2)) (X:=(0:Rat)) xR (yI dC) λnf zf oc=>(zW (A:=[]) (uB sizeOf29 pH oc qh) λeq cy=>(yB (zH (zQ ?_)))));refine zK 10 _ [(9,(24,53,[.bool false,.slice none 0 0,.slice none 0 0,.bool false,.slice none 0 0,.slice none 0 0,.bool false,.slice none 0 0,.slice none 0 0,.bool false,.slice none 0 0,.slice none 0 0,.slice none 0 0,.string ⟨#[]⟩]))] [(0,.q),(1,.q),(2,.q),(5,.q),(3,.c),(4,.q),(6,.c),(7,.q),(8,.q),(9,.a),(10,.t)] yA (jM.cons I I (uR jE I I) jM.nil) zou (uU I I kU) (λr hr=>hr) (wX I (xV (ρ:=(rpQ 1)) (xZ (ps':=[]) underlying29 xR I I (qL underlying29) trivial I (yI dC) zO)) λxp ft=>(wX I (xV (ρ:=(rpQ 1)) (xZ (ps':=[]) underlying29 xR I I (qL underlying29) trivial I (yI dC) zO)) λxo fs=>(wX I (xB yE pH cy) λxn qg=>?_)));replace dc:=dc.mono ((((du.trans cf).trans bs).trans aq).trans cm);refine wX I (xB yE pH dc) λxk fq=>?_;refine w_c I (sC (ev1 I) call87 (λw hs=>oG hs qg dC) λxm h6 dd qf=>?_);replace ft:=ft.mono dd;replace fs:=fs.mono dd;refine wX I (xV (ρ:=(tPt 2)) (wB (ps':=[(0,_),(1,_),(2,_)]) underlying31 yM I I sizeOf29 e6z I (xO (yI dC)) (zD I (Pc.tx (Pc.here _)) (ft.le (Le.q (l:=2) dC)) (zD I (Pc.ty (Pc.here _)) (fs.le (Le.q (l:=2) dC)) (zD I (Pc.tz (Pc.here _)) qf zO))))) λxl fr=>?_;refine w_c I ?_;replace fq:=fq.mono dd;refine sC (ev1 I) call87 (λw hs=>oG hs fq oM) λxj h7 gj qe=>?_;replace fr:=fr.mono gj;refine wX I (xV (ρ:=(tPl 2 (l1+1))) (xZ (ps':=[(0,_),(1,_)]) underlying50 sM I I (rG underlying50) e4z I (yC (xO (yI dC)) (yI oM)) (zD I (Pc.fst (Pc.here _)) fr (zD I (Pc.snd (Pc.here _)) (qe.le (Le.q (l:=l1+1) oM)) zO)))) λxi qd=>(wX I (xV (ρ:=(rpP (tPl 2 (l1+1)) (rpP rpV qI))) (xZ (ps':=[(0,_),(2,_)]) underlying53 jE I I (bN underlying53) e4z I (yC (yC (xO (yI dC)) (yI oM)) (yC gV gH)) (zD I (Pc.fst (Pc.here _)) qd (zD I (Pc.snd (Pc.snd (Pc.here _))) (cY (show ByB [98,111,116,116,111,109] by unfold ByB;decide)) zO)))) λxh qc=>?_);refine w_a I I (λco=>?_);have ob:(rpP (tPl 1 1) (rpP rpV qI)).R h7 [.bool false,.slice none 0 0,.slice none 0 0,.bool false,.slice none 0 0,.slice none 0 0,.bool false,.slice none 0 0,.slice none 0 0,.bool false,.slice none 0 0,.slice none 0 0,.slice none 0 0,.string ⟨#[]⟩] ((zT,(0:Rat)),((Value.slice none 0 0),([]:List Nat))):=(yC (yC (xO (yI dC)) (yI dC)) (yC gV gH));have jn:=(Le.p (Le.p (Le.t (Le.q (l:=2) dC)) (Le.q (l:=l1+1) oM)) (Le.refl _)).R ob;refine yK (A:=[]) I (uB sizeOf53 pH jn qc) λmw lf=>(cK (vO (e':=[(5,_),(6,_),(10,_),(13,_),(20,_),(23,_),(24,_)]) e7 (zH (zQ (zF (lX (xV (ρ:=(rpQ 1)) (xZ (ps':=[]) underlying29 xR I I (qL underlying29) trivial I (yI dC) zO)) λxg qb=>(lX (xV (ρ:=(rpQ 1)) (xZ (ps':=[]) underlying29 xR I I (qL underlying29) trivial I (yI dC) zO)) λxf qa=>?_)))))));replace cy:=cy.mono (dd.trans gj);refine lX (xB yE pH cy) λxe pz=>(lX (xV (ρ:=(tPt 2)) (wB (ps':=[(0,_),(1,_),(2,_)]) underlying31 yM I I sizeOf29 e6z I (xO (yI dC)) (zD I (Pc.tx (Pc.here _)) (qb.le (Le.q (l:=2) dC)) (zD I (Pc.ty (Pc.here _)) (qa.le (Le.q (l:=2) dC)) (zD I (Pc.tz (Pc.here _)) pz zO))))) λxd py=>?_);replace db:=db.mono ((((((du.trans cf).trans bs).trans aq).trans cm).trans dd).trans gj);refine lX (xB yE pH db) λxc px=>(lX (xV (ρ:=(tPl 2 (l2+1))) (xZ (ps':=[(0,_),(1,_)]) underlying50 sM I I (rG underlying50) e4z I (yC (xO (yI dC)) (yI oM)) (zD I (Pc.fst (Pc.here _)) py (zD I (Pc.snd (Pc.here _)) (px.le (Le.q (l:=l2+1) oM)) zO)))) λxb pw=>(lX (xV (ρ:=(rpP (tPl 2 (l2+1)) (rpP rpV qI))) (xZ (ps':=[(0,_),(2,_)]) underlying53 jE I I (bN underlying53) e4z I (yC (yC (xO (yI dC)) (yI oM)) (yC gV gH)) (zD I (Pc.fst (Pc.here _)) pw (zD I (Pc.snd (Pc.snd (Pc.here _))) (cY (show ByB [116,111,112] by unfold ByB;decide)) zO)))) λxa pv=>(nA (ρ:=(rpP (tPl 1 1) (rpP rpV qI))) (X:=((zT,(0:Rat)),((Value.slice none 0 0),([]:List Nat)))) jE (yC (yC (xO (yI dC)) (yI dC)) (yC gV gH)) λcn ze oa=>?_)))
 have jm:=(Le.p (Le.p (Le.t (Le.q (l:=2) dC)) (Le.q (l:=l2+1) oM)) (Le.refl _)).R oa;refine zW (A:=[]) (uB sizeOf53 pH jm pv) λmu ld=>(yB (zH (zQ (zQ (zF (asg (v:=vI (0)) I I (yB (zH (vQ (xG 53 14 ?_))))))))));have kd:=RL.nil (ρ:=rpP (tPl (4*k+4*l1+4*l2+40) (100*k+100*l1+100*l2+1000)) (rpP tII qI)) (h:=h7);refine xG 22 1 ?_;have kc:=RL.nil (ρ:=rpS rpI) (h:=h7);refine xG 22 1 ?_;have kb:=RL.nil (ρ:=rpS rpI) (h:=h7);refine gcL (ι:=Nat×List Fc×List (List Int)×List (List Int)×List Value×List Value×List Value×Value×List Value×Value×List Value×Value×List Value×Mem) (λ(i,F0,C0,T0,ck,di,cj,az,ci,ap,ep,an,dh,mq)=>(MLe h7 mq/\((rpP (tLs (k+l1+l2+5)) (rpP rpV (rpS (rpP rpI (rpP rpI (rpQ 1)))))).R mq ck (PP,(az,([]:List En)))/\(rpP (tPl 5 (l1+l2+5)) (rpP rpV qI)).R mq di ((T3.mk (0:Rat) (0:Rat) (-((1:Int):Rat)),-lo),(ap,[98,111,116,116,111,109]))/\(rpP (tPl 5 (l1+l2+5)) (rpP rpV qI)).R mq cj ((T3.mk (0:Rat) (0:Rat) ((1:Int):Rat),hi),(an,[116,111,112]))/\RL (tFc (4*k+4*l1+4*l2+40) (100*k+100*l1+100*l2+1000)) mq ci F0/\az.oneCell'=true/\RL (rpS rpI) mq ep C0/\ap.oneCell'=true/\RL (rpS rpI) mq dh T0/\an.oneCell'=true/\i<=II.length/\C0=zZP L i/\T0=zU3 L i/\F0=zLV L lo hi i),[(6,vP b6 0),(10,vP aa 0),(13,C),(20,vI (↑J.length:Int)),(24,vP co 0),(25,vP cn 0),(26,vI ↑i)],[.gs 22 1 an T0.length dh,.gs 22 1 ap C0.length ep,.gs 53 14 az F0.length ci,.var cn 53 cj,.var co 53 di,.var nf 29 eq,.gs 22 1 C II.length aw,.gs 31 9 D J.length bc,.gs 118 2 ad ED.length au,.var aa 39 ck,.var b6 39 dy,.var b5 29 dz,.var b4 29 ea],mq,II.length-i)) (0,[],[],[],cl,mw,mu,(.slice none 0 0),[],(.slice none 0 0),[],(.slice none 0 0),[],h7) ?_ ?_
 · exact⟨mle,lg.up,((Le.p (Le.p (Le.t (Le.q (l:=5) dC)) (Le.q (l:=l1+l2+5) oM)) (Le.refl _)).R lf),((Le.p (Le.p (Le.t (Le.q (l:=5) dC)) (Le.q (l:=l1+l2+5) oM)) (Le.refl _)).R ld),kd,I,kc,I,kb,I,by omega,I,I,I⟩
 rintro⟨i,F0,C0,T0,ck,di,cj,az,ci,ap,ep,an,dh,mq⟩ ⟨jh,cd,bh,av,cu,lt,ct,tg,bq,ro,hi3,ja,iw,iz⟩
 refine yW ?_;have hCl:C0.length=i:=by rw[ja];exact yY _ _
 have hTl:T0.length=i:=by rw[iw];exact yY _ _
 have hFl:F0.length=eU L i:=by rw[iz];exact zVQ oM
 have re:=lw i oM;refine zQ (zQ (zF (mv I I (mv I I (gv (jZ mh6 underlying51 I) I (gv (yJ I I) I (yB (zH ?_))))))));refine cnd (λmc=>?_) λmc=>?_
 ·
  have jj:=mm i oM;have io:=dt.2 i oM;refine qK (zH (zQ (vQ (zQ ?_))));refine qG (A:=[_]) 10 [] [(0,.q),(1,.q),(2,.q),(3,.q),(4,.q),(5,.q),(6,.c),(7,.c),(8,.c),(9,.q),(10,.t)] yA nX zou nX (wI I (λ_ _=>(xU underlying53 I sizeOf51 I).cv (show _=vP co 12 from congrArg (vP co) zo3)) I (wX I (tX (xB pW (Pc.snd (Pc.fst pH)) bh)) λwz pu=>?_));subst pu;refine qQ I I I (qQ I I I (w_q I (λh' L' hh hR=>(yU i (hR _ mh5) underlying51 sizeOf22 I I I bO nP).cv (show _=zI 1 C ((i*1+0)) from congrArg (zI 1 C) zo3)) I ?_));replace ac:=ac.mono (((((bs.trans aq).trans cm).trans dd).trans gj).trans jh);refine aD (F:=λv_=>(rpS rpI).Is mq v_ (II.getD i [])) I (wM fK (Pc.arr (Pc.here _) [] i bO) I nP I ac I) (tQ mh5) I ?_;intro wy pt;refine w_c I (sC (ev1 I) call67 (λw hs=>zDS hs pt oM) λwx h8 bt pq=>?_);refine w_c I (jN (λX=>zL (ρ:=(rpS rpI)) (m:=1) (xs:=[zCH (II.getD i []) (II.getD i []).length]) (ps':=[(0,_)]) underlying51 qX I I I wG e2z (zD I (Pc.arr (Pc.here _) [] 0 dC) pq zO) zoj nP) I ?_)
  rintro ww yr ⟨ut,rfl,kw⟩
  refine w_c I (xS (A:=[]) (ρ:=(rpS rpI)) kw dK ?_);intro h9 cg ic;replace ct:=ct.mono (bt.trans cg);refine fF (A:=[_]) (λX=>vX (zU (ρ:=(rpS rpI)) (bytes:=24) underlying51 qX I I I I nP I I ct ic bO bO)) I (xJ zoy) ?_
  rintro fh yq ⟨gf,eu,rfl,kv⟩
  refine wI I (λ_ _=>(xU underlying53 I sizeOf51 I).cv (show _=vP co 12 from congrArg (vP co) zo3)) I ?_;replace bh:=bh.mono (bt.trans cg);refine yK (A:=[_,_,_,_]) I (uB sizeOf51 (Pc.snd (Pc.fst pH)) bh (oS gf)) λdm im=>(cK (vO (e':=[(6,_),(10,_),(13,_),(20,_),(24,_),(25,_),(26,_)]) e7 (zH (zQ (zF (asg I I (yB (zH (zQ (zQ (zF (asg (v:=vI (0)) I I (yB ?_)))))))))))));refine zH (vQ (xG 3 1 ?_));have ie:=RL.nil (ρ:=rpI) (h:=h9);refine gcL (ι:=Nat×List Int×Value×List Value×Mem) (λ(q,TL,cc,dl,mr)=>(MLe h9 mr/\(RL rpI mr dl TL/\q<=(II.getD i []).length/\TL=tpL L i q),[(6,vP b6 0),(10,vP aa 0),(13,C),(20,vI (↑J.length:Int)),(24,vP co 0),(25,vP cn 0),(26,vI ↑i),(27,cc),(28,vI ↑q)],[.gs 3 1 cc TL.length dl,.gs 22 1 an T0.length dh,.gs 22 1 fh (C0++[zCH (II.getD i []) (II.getD i []).length]).length eu,.gs 53 14 az F0.length ci,.var cn 53 cj,.var co 53 dm,.var nf 29 eq,.gs 22 1 C II.length aw,.gs 31 9 D J.length bc,.gs 118 2 ad ED.length au,.var aa 39 ck,.var b6 39 dy,.var b5 29 dz,.var b4 29 ea],mr,(II.getD i []).length-q)) (0,[],(.slice none 0 0),[],h9) ?_ ?_
  · exact⟨mle,ie,by omega,I⟩
  rintro⟨q,TL,cc,dl,mr⟩ ⟨gh,bx,hq2,ml⟩
  refine yW ?_;have yy:TL.length=q:=by rw[ml];exact yY _ _
  have jj:=mm i oM;have io:=dt.2 i oM;refine zQ (zQ (zF (mv I I (mv I I (mv I I (gv ((yU i mh7 underlying51 sizeOf22 I I I bO nP).cv (show _=zI 1 C ((i*1+0)) from congrArg (zI 1 C) zo3)) I ?_))))));replace ac:=ac.mono ((bt.trans cg).trans gh);refine zHW (F:=λv_=>(rpS rpI).Is mr v_ (II.getD i [])) (wM fK (Pc.arr (Pc.here _) [] i bO) I nP I ac I) (tQ mh7) I ?_;intro wv pp;refine gv (uY underlying22 I pp) I (gv (yJ I I) I (yB (zH ?_)));refine cnd (λlz=>?_) λlz=>?_
  ·
   have te:=gb i q oM oM;refine qK (zH (zQ (vQ (zF (mv I I (mv I I (mv I I (gv ((yU i mh7 underlying51 sizeOf22 I I I bO nP).cv (show _=zI 1 C ((i*1+0)) from congrArg (zI 1 C) zo3)) I (zHW (F:=λv_=>(rpS rpI).Is mr v_ (II.getD i [])) (wM fK (Pc.arr (Pc.here _) [] i bO) I nP I ac I) (tQ mh7) I ?_)))))))));intro wu po;refine mv I I (lX (xI (0:Int) q underlying22 ty3 po) λwt pn=>(lX (xA ty3 pn) λws pm=>?_));obtain⟨rfl,to,tb⟩:=kS pm;refine mv I I (gv (zR I I (by(have:=gb i q oM oM;omega)) (by(have:=gb i q oM oM;omega))) I (zG (zL (ρ:=rpI) (m:=1) (xs:=[(((II.getD i []).getD q (0:Int))+(↑J.length:Int))]) (ps':=[(0,_)]) underlying22 jV I I I wL e2z (zD I (Pc.arr (Pc.here _) (0:Int) 0 dC) (wH oM oM) zO) zoj nP) I I I ?_))
   rintro wq yp ⟨ur,rfl,ku⟩
   refine zP (A:=[]) (ρ:=rpI) ku ?_;intro ms bp ib;replace bx:=bx.mono bp;refine xL (A:=[]) (vX (zU (ρ:=rpI) (bytes:=8) underlying22 jV I I I I nP I I bx ib bO bO)) I I I ?_
   rintro nh yo ⟨ti,na,rfl,ks⟩
   refine asg I I (yB (rK (vO (e':=[(6,_),(10,_),(13,_),(20,_),(24,_),(25,_),(26,_),(28,_),(27,_)]) ⟨I,I,I,I,I,I,I,I,I,trivial⟩ (zH (zF (mv I I (gv (zR (q:=1) I I oM oM) I (asg I I (yB ?_)))))))));refine gqL ((q+1),(TL++[(((II.getD i []).getD q (0:Int))+(↑J.length:Int))]),nh,na,ms) ?_ ?_
   · exact⟨mle,ks,by omega,by rw[ml,ch,bj];rfl⟩
   omega
  have ek:q=(II.getD i []).length:=by omega
  refine fI (qE (qE (fH (zH (zQ (zF (gv ((xU underlying53 I sizeOf51 I).cv (show _=vP cn 12 from congrArg (vP cn) zo3)) I ?_)))))));replace av:=av.mono ((bt.trans cg).trans gh);refine lX (tX (xB pW (Pc.snd (Pc.fst pH)) av)) λwp pk=>?_;subst pk;refine mv I I (zP (A:=[]) (ρ:=rpI) bx ?_);intro ms bp ia;refine zG (zL (ρ:=(rpS rpI)) (m:=1) (xs:=[TL]) (ps':=[(0,_)]) underlying51 qX I I I wG e2z (zD I (Pc.arr (Pc.here _) [] 0 dC) ia zO) zoj nP) I I I ?_
  rintro wo yn ⟨uq,rfl,kr⟩
  refine zP (A:=[]) (ρ:=(rpS rpI)) kr ?_;intro gq cq hw;replace bq:=bq.mono ((((bt.trans cg).trans gh).trans bp).trans cq);refine xL (A:=[]) (vX (zU (ρ:=(rpS rpI)) (bytes:=24) underlying51 qX I I I I nP I I bq hw bO bO)) I I I ?_
  rintro jg ym ⟨ge,gr,rfl,kq⟩
  refine gv ((xU underlying53 I sizeOf51 I).cv (show _=vP cn 12 from congrArg (vP cn) zo3)) I ?_;replace av:=av.mono (bp.trans cq);refine zW (A:=[_,_,_]) (uB sizeOf51 (Pc.snd (Pc.fst pH)) av (oS ge)) λfe il=>(yB (vO (e':=[(6,_),(10,_),(13,_),(20,_),(24,_),(25,_),(26,_)]) e7 (zH (zQ (zF (asg (v:=vI (0)) I I (yB (zH (vQ ?_)))))))));refine gcL (ι:=Nat×List Fc×List Value×Value×List Value×Mem) (λ(q,F1,ca,ae,bz,mf)=>(MLe gq mf/\((rpP (tLs (k+l1+l2+5)) (rpP rpV (rpS (rpP rpI (rpP rpI (rpQ 1)))))).R mf ca (PP,(ae,([]:List En)))/\RL (tFc (4*k+4*l1+4*l2+40) (100*k+100*l1+100*l2+1000)) mf bz F1/\ae.oneCell'=true/\q<=(II.getD i []).length/\F1=zLV L lo hi i++sfX L lo hi i q),[(6,vP b6 0),(10,vP aa 0),(13,C),(20,vI (↑J.length:Int)),(24,vP co 0),(25,vP cn 0),(26,vI ↑i),(29,vI ↑q)],[.gs 22 1 jg (T0++[TL]).length gr,.gs 22 1 fh (C0++[zCH (II.getD i []) (II.getD i []).length]).length eu,.gs 53 14 ae F1.length bz,.var cn 53 fe,.var co 53 dm,.var nf 29 eq,.gs 22 1 C II.length aw,.gs 31 9 D J.length bc,.gs 118 2 ad ED.length au,.var aa 39 ca,.var b6 39 dy,.var b5 29 dz,.var b4 29 ea],mf,(II.getD i []).length-q)) (0,F0,ck,az,ci,gq) ?_ ?_
  · exact⟨mle,cd.up,cu.up,lt,by omega,by rw[iz];exact(List.append_nil _).symm⟩
  rintro⟨q,F1,ca,ae,bz,mf⟩ ⟨rb,am,bw,iv,hq3,mn⟩
  refine yW ?_;have za:F1.length=eU L i+q:=by rw[mn,lAz,zVQ oM];exact congrArg _ (yY _ _)
  have jj:=mm i oM;have io:=dt.2 i oM;have hti:=zAQ (((i:Int):Int):Rat);have htk:=zAQ (((q:Int):Int):Rat);have hqi:=sL (i:Int) oM oM;have hqk:=sL (q:Int) oM oM;refine zQ (zQ (zF (mv I I (mv I I (mv I I (gv ((yU i mh6 underlying51 sizeOf22 I I I bO nP).cv (show _=zI 1 C ((i*1+0)) from congrArg (zI 1 C) zo3)) I ?_))))));replace ac:=ac.mono ((bp.trans cq).trans rb);refine zHW (F:=λv_=>(rpS rpI).Is mf v_ (II.getD i [])) (wM fK (Pc.arr (Pc.here _) [] i bO) I nP I ac I) (tQ mh6) I ?_;intro wm pj;refine gv (uY underlying22 I pj) I (gv (yJ I I) I (yB (zH ?_)));refine cnd (λly=>?_) λly=>?_
  ·
   have te:=gb i q oM oM;have hrb:=gb i ((q+1)%(II.getD i []).length) oM (Nat.mod_lt _ oM);refine qK (zH (zQ (vQ (zQ ?_))));refine zK 23 _ [] [(0,.q),(1,.q),(2,.q),(3,.q),(4,.q),(5,.q),(6,.q),(7,.q),(8,.q),(9,.q),(10,.q),(11,.q),(12,.q),(13,.q),(14,.q),(15,.q),(16,.q),(17,.q),(18,.q),(19,.q),(20,.q),(21,.q),(22,.q)] yA nX (wJ zou) nX (λr hr=>hr) (qQ I I I (qQ I I I (w_q I (λh' L' hh hR=>(yU i (hR _ mh6) underlying51 sizeOf22 I I I bO nP).cv (show _=zI 1 C ((i*1+0)) from congrArg (zI 1 C) zo3)) I (aD (F:=λv_=>(rpS rpI).Is mf v_ (II.getD i [])) I (wM fK (Pc.arr (Pc.here _) [] i bO) I nP I ac I) (tQ mh6) I ?_))));intro wl pi;refine qQ I I I (wX I (xI (0:Int) q underlying22 ty3 pi) λwk ph=>(wX I (xA ty3 ph) λwj pg=>?_));obtain⟨rfl,tn,ta⟩:=kS pg;refine qQ I I I (qQ I I I (w_q I (λh' L' hh hR=>(yU i (hR _ mh6) underlying51 sizeOf22 I I I bO nP).cv (show _=zI 1 C ((i*1+0)) from congrArg (zI 1 C) zo3)) I (aD (F:=λv_=>(rpS rpI).Is mf v_ (II.getD i [])) I (wM fK (Pc.arr (Pc.here _) [] i bO) I nP I ac I) (tQ mh6) I ?_)));intro wi pf;refine qQ I I I (wI I (λ_ _=>zR (q:=1) I I oM oM) I (qQ I I I (qQ I I I (w_q I (λh' L' hh hR=>(yU i (hR _ mh6) underlying51 sizeOf22 I I I bO nP).cv (show _=zI 1 C ((i*1+0)) from congrArg (zI 1 C) zo3)) I (aD (F:=λv_=>(rpS rpI).Is mf v_ (II.getD i [])) I (wM fK (Pc.arr (Pc.here _) [] i bO) I nP I ac I) (tQ mh6) I ?_)))));intro wh pe;refine w_q I (λh' L' hh hR=>uY underlying22 I (pe.mono hh)) I (wI I (λ_ _=>wC I I oM oM) I (wX I (xI (0:Int) ((q+1)%(II.getD i []).length) underlying22 ty3 pf (hi:=by exact Nat.mod_lt _ oM)) λwg pd=>(wX I (xA ty3 pd) λwf pc=>?_)));obtain⟨rfl,tm,sy⟩:=kS pc;refine zLH I I I (zLH I I I (cK (vO (e':=[(6,_),(10,_),(13,_),(20,_),(24,_),(25,_),(26,_),(29,_),(30,_),(31,_)]) e10 (zH (zQ ?_)))));refine zK 12 _ [(11,(32,31,[.bool false,.slice none 0 0,.slice none 0 0,.bool false,.slice none 0 0,.slice none 0 0,.bool false,.slice none 0 0,.slice none 0 0]))] [(0,.q),(1,.q),(2,.q),(3,.q),(4,.q),(5,.q),(6,.q),(7,.q),(8,.q),(9,.q),(10,.c),(11,.a),(12,.t)] yA (jM.cons I I (uR yM I I) jM.nil) (wJ zou) (uU I I kU) (λr hr=>hr) (wI I (λ_ _=>(xU underlying39 I sizeOf35 I).cv (show _=vP aa 0 from congrArg (vP aa) zo3)) I (wX I (xB uO (Pc.fst pH) am) λwe oz=>(qQ I I I (wX I (xI zT (((II.getD i []).getD ((q+1)%(II.getD i []).length) 0).toNat) underlying35 zM oz (hi:=by(show _<PP.length;omega))) λwd oy=>(wX I (xA zM oy) λwc ox=>(wI I (λ_ _=>(xU underlying39 I sizeOf35 I).cv (show _=vP aa 0 from congrArg (vP aa) zo3)) I (wX I (xB uO (Pc.fst pH) am) λwb ow=>(qQ I I I (wX I (xI zT (((II.getD i []).getD q 0).toNat) underlying35 zM ow (hi:=by(show _<PP.length;omega))) λwa ou=>(wX I (xA zM ou) λvz ot=>?_))))))))));refine w_c I (sC (ev2 I I) call22 (λw hs=>zMN hs ox ot oM) λvy mo fb fp=>?_);replace fp:=Rp.Is.le fp (Le.t (Le.q (l:=4*k+4*l1+4*l2+23) oM));refine w_a I I (λjd=>?_);have nz:(tPt 1).R mo [.bool false,.slice none 0 0,.slice none 0 0,.bool false,.slice none 0 0,.slice none 0 0,.bool false,.slice none 0 0,.slice none 0 0] zT:=(xO (yI dC));have gx:=(Le.t (Le.q (l:=4*k+4*l1+4*l2+23) oM)).R nz;refine yK (A:=[]) I (uB sizeOf31 pH gx fp) λrr ez=>(cK (vO (e':=[(6,_),(10,_),(13,_),(20,_),(24,_),(25,_),(26,_),(29,_),(30,_),(31,_),(32,_)]) ⟨I,I,I,I,I,I,I,I,I,I,I,trivial⟩ (zH (zQ ?_))));refine zK 8 _ [(7,(33,31,[.bool false,.slice none 0 0,.slice none 0 0,.bool false,.slice none 0 0,.slice none 0 0,.bool false,.slice none 0 0,.slice none 0 0]))] [(0,.q),(1,.q),(2,.q),(3,.q),(5,.q),(4,.c),(6,.q),(7,.a),(8,.t)] yA (jM.cons I I (uR yM I I) jM.nil) zou (uU I I kU) (λr hr=>hr) (wI I (λ_ _=>(yG (sz:=3) (q:=1) 1 underlying31 sizeOf29 I I I dC).cv (show _=vP jd 3 from congrArg (vP jd) zo3)) I (wX I (xB yE (Pc.ty pH) ez) λvx fo=>(wI I (λ_ _=>(yG (sz:=3) (q:=0) 0 underlying31 sizeOf29 I I I dC).cv (show _=vP jd 0 from congrArg (vP jd) zo3)) I (wX I (xB yE (Pc.tx pH) ez) λvw os=>(wX I (xV (ρ:=(rpQ 1)) (xZ (ps':=[]) underlying29 xR I I (qL underlying29) trivial I (yI dC) zO)) λvu fm=>?_)))))
   refine w_c I (sC (ev1 I) call87 (λw hs=>oG hs os oM) λvv ug fa or=>?_);replace fo:=fo.mono fa;replace fm:=fm.mono fa;refine wX I (xV (ρ:=(tPt (4*k+4*l1+4*l2+23))) (wB (ps':=[(0,_),(1,_),(2,_)]) underlying31 yM I I sizeOf29 e6z I (xO (yI oM)) (zD I (Pc.tx (Pc.here _)) fo (zD I (Pc.ty (Pc.here _)) or (zD I (Pc.tz (Pc.here _)) (fm.le (Le.q (l:=4*k+4*l1+4*l2+23) oM)) zO))))) λvt oq=>?_;refine w_a I I (λb33=>?_);have ny:(tPt 1).R ug [.bool false,.slice none 0 0,.slice none 0 0,.bool false,.slice none 0 0,.slice none 0 0,.bool false,.slice none 0 0,.slice none 0 0] zT:=(xO (yI dC));have gw:=(Le.t (Le.q (l:=4*k+4*l1+4*l2+23) oM)).R ny;refine yK (A:=[]) I (uB sizeOf31 pH gw oq) λrq ey=>(cK (zH ?_));refine qG (A:=[_,_,_,_]) 32 [] [(0,.q),(1,.q),(2,.q),(3,.q),(4,.q),(5,.q),(6,.q),(7,.q),(8,.q),(11,.q),(12,.q),(13,.q),(14,.q),(15,.q),(16,.q),(17,.q),(18,.q),(21,.q),(25,.q),(0,.x [10,23,24,27] [9,10,22,23,24,26,27] [19,20]),(28,.c),(29,.c),(30,.c),(31,.q),(32,.t)] yA nX zou nX (wI I (λ_ _=>(xU underlying39 I sizeOf36 I).cv (show _=vP aa 1 from congrArg (vP aa) zo3)) I ?_);replace am:=am.mono (fb.trans fa);refine wX I (tX (xB kR (Pc.snd (Pc.fst pH)) am)) λvq oo=>?_;subst oo;refine wX I (xB zM pH ey) λvp bn=>(wX I (xB zM pH ey) λvo dr=>(wI I (λ_ _=>(xU underlying39 I sizeOf35 I).cv (show _=vP aa 0 from congrArg (vP aa) zo3)) I (wX I (xB uO (Pc.fst pH) am) λvn on=>(qQ I I I (wX I (xI zT (((II.getD i []).getD q 0).toNat) underlying35 zM on (hi:=by(show _<PP.length;omega))) λvm ol=>(wX I (xA zM ol) λvl dq=>(qQ I I I (qQ I I I (qQ I I I (qQ I I I (wI I (λ_ _=>zR I I oM oM) I (qQ I I I (qQ I I I ?_)))))))))))));refine wI I (λ_ _=>zR I I oM oM) I (qQ I I I (qQ I I I (yEU (N:=9) I ?_)));refine zD4 I I I I ?x2 ?x3
   case' x2=>
    refine sC (ev2 I I) call56 (λw hs=>cE hs dr dq oM) λjf rn ay bb=>?_;replace bb:=Rp.Is.le bb (Le.q (l:=15*k+15*l1+15*l2+93) oM);refine tK I ?_;replace bn:=bn.mono ay;refine xX I (xV (ρ:=(tPl (4*k+4*l1+4*l2+23) (15*k+15*l1+15*l2+93))) (xZ (ps':=[(0,_),(1,_)]) underlying50 sM I I (rG underlying50) e4z I (yC (xO (yI oM)) (yI oM)) (zD I (Pc.fst (Pc.here _)) bn (zD I (Pc.snd (Pc.here _)) bb zO)))) λje Z=>?_;refine zD4 I I I I ?x4 ?x5
    case' x4=>
     refine sC (ev1 I) call88 (λw hs=>vM hs oM oM) λdn go ab ba=>?_;obtain⟨rfl,br⟩:=kL ba;refine tK I (aC I (λ_ _=>wY (pa:=([115]:List Nat)) (pb:=(qP (((↑i:Int):Int):Rat))) I I zov) I (tK I (aC I (λ_ _=>wY (pa:=(([115]:List Nat)++(qP (((↑i:Int):Int):Rat)))) (pb:=([46]:List Nat)) I I zov) I ?_)));refine zD4 I I I I ?x6 ?x7
     case' x6=>
      refine sC (ev1 I) call88 (λw hs=>vM hs oM oM) λbl df U ah=>?_;obtain⟨rfl,ar⟩:=kL ah;refine tK I (aC I (λ_ _=>wY (pa:=((([115]:List Nat)++(qP (((↑i:Int):Int):Rat)))++([46]:List Nat))) (pb:=(qP (((↑q:Int):Int):Rat))) I I zov) I (zN7 I I (jN (λX=>zL (ρ:=rpI) (m:=4) (xs:=(lU (II.getD i []) q J)) (ps':=[(0,_),(1,_),(2,_),(3,_)]) underlying22 jV I I I wL e8 (zD I (Pc.arr (Pc.here _) (0:Int) 0 dC) (wH oM oM) (zD I (Pc.arr (Pc.here _) (0:Int) 1 dC) (wH oM oM) (zD I (Pc.arr (Pc.here _) (0:Int) 2 dC) (wH oM oM) (zD I (Pc.arr (Pc.here _) (0:Int) 3 dC) (wH oM oM) zO)))) zon nP) I ?_)));intro fg fz lr;obtain⟨es,rfl,G⟩:=lr;refine zN7 I I (xS (A:=[]) (ρ:=rpI) G dK ?_);intro de O hv;refine jN (λX=>zL (ρ:=(rpS rpI)) (m:=1) (xs:=[(lU (II.getD i []) q J)]) (ps':=[(0,_)]) underlying51 qX I I I wG e2z (zD I (Pc.arr (Pc.here _) [] 0 dC) hv zO) zoj nP) I ?_;intro bm bo ak;obtain⟨ax,rfl,H⟩:=ak;refine j3 ?_;replace Z:=Z.mono ((ab.trans U).trans O)
     case' x7=>
      refine jN (λX=>zL (ρ:=rpI) (m:=4) (xs:=(lU (II.getD i []) q J)) (ps':=[(0,_),(1,_),(2,_),(3,_)]) underlying22 jV I I I wL e8 (zD I (Pc.arr (Pc.here _) (0:Int) 0 dC) (wH oM oM) (zD I (Pc.arr (Pc.here _) (0:Int) 1 dC) (wH oM oM) (zD I (Pc.arr (Pc.here _) (0:Int) 2 dC) (wH oM oM) (zD I (Pc.arr (Pc.here _) (0:Int) 3 dC) (wH oM oM) zO)))) zon nP) I ?_
      rintro fg fz ⟨es,rfl,G⟩
      refine zD4 I I I I ?x8 ?x9
      case' x8=>
       refine sC (ev1 I) call88 (λw hs=>vM hs oM oM) λbl df U ah=>?_;obtain⟨rfl,ar⟩:=kL ah;refine tK I (aC I (λ_ _=>wY (pa:=((([115]:List Nat)++(qP (((↑i:Int):Int):Rat)))++([46]:List Nat))) (pb:=(qP (((↑q:Int):Int):Rat))) I I zov) I (zN7 I I ?_));replace G:=G.mono U;refine xS (A:=[]) (ρ:=rpI) G dK ?_;intro de O hu;refine jN (λX=>zL (ρ:=(rpS rpI)) (m:=1) (xs:=[(lU (II.getD i []) q J)]) (ps':=[(0,_)]) underlying51 qX I I I wG e2z (zD I (Pc.arr (Pc.here _) [] 0 dC) hu zO) zoj nP) I ?_;intro bm bo ak;obtain⟨ax,rfl,H⟩:=ak;refine j3 ?_;replace Z:=Z.mono ((ab.trans U).trans O)
      case' x9=>
       refine xS (A:=[]) (ρ:=rpI) G dK ?_;intro df U ht;refine jN (λX=>zL (ρ:=(rpS rpI)) (m:=1) (xs:=[(lU (II.getD i []) q J)]) (ps':=[(0,_)]) underlying51 qX I I I wG e2z (zD I (Pc.arr (Pc.here _) [] 0 dC) ht zO) zoj nP) I ?_
       rintro bm bo ⟨ax,rfl,H⟩
       refine zAL I I (sC (ev1 I) call88 (λw hs=>vM hs oM oM) λbl de O ah=>?_);obtain⟨rfl,ar⟩:=kL ah;refine tK I (aC I (λ_ _=>wY (pa:=((([115]:List Nat)++(qP (((↑i:Int):Int):Rat)))++([46]:List Nat))) (pb:=(qP (((↑q:Int):Int):Rat))) I I zov) I (j3 ?_));replace Z:=Z.mono ((ab.trans U).trans O);replace H:=H.mono O
    case' x5=>
     refine jN (λX=>zL (ρ:=rpI) (m:=4) (xs:=(lU (II.getD i []) q J)) (ps':=[(0,_),(1,_),(2,_),(3,_)]) underlying22 jV I I I wL e8 (zD I (Pc.arr (Pc.here _) (0:Int) 0 dC) (wH oM oM) (zD I (Pc.arr (Pc.here _) (0:Int) 1 dC) (wH oM oM) (zD I (Pc.arr (Pc.here _) (0:Int) 2 dC) (wH oM oM) (zD I (Pc.arr (Pc.here _) (0:Int) 3 dC) (wH oM oM) zO)))) zon nP) I ?_
     rintro fg fz ⟨es,rfl,G⟩
     refine zD4 I I I I ?x10 ?x11
     case' x10=>
      refine sC (ev1 I) call88 (λw hs=>vM hs oM oM) λdn go ab ba=>?_;obtain⟨rfl,br⟩:=kL ba;refine tK I (aC I (λ_ _=>wY (pa:=([115]:List Nat)) (pb:=(qP (((↑i:Int):Int):Rat))) I I zov) I (tK I (aC I (λ_ _=>wY (pa:=(([115]:List Nat)++(qP (((↑i:Int):Int):Rat)))) (pb:=([46]:List Nat)) I I zov) I ?_)));refine zD4 I I I I ?x12 ?x13
      case' x12=>
       refine sC (ev1 I) call88 (λw hs=>vM hs oM oM) λbl df U ah=>?_;obtain⟨rfl,ar⟩:=kL ah;refine tK I (aC I (λ_ _=>wY (pa:=((([115]:List Nat)++(qP (((↑i:Int):Int):Rat)))++([46]:List Nat))) (pb:=(qP (((↑q:Int):Int):Rat))) I I zov) I (zN7 I I ?_));replace G:=G.mono (ab.trans U);refine xS (A:=[]) (ρ:=rpI) G dK ?_;intro de O hp;refine jN (λX=>zL (ρ:=(rpS rpI)) (m:=1) (xs:=[(lU (II.getD i []) q J)]) (ps':=[(0,_)]) underlying51 qX I I I wG e2z (zD I (Pc.arr (Pc.here _) [] 0 dC) hp zO) zoj nP) I ?_;intro bm bo ak;obtain⟨ax,rfl,H⟩:=ak;refine j3 ?_;replace Z:=Z.mono ((ab.trans U).trans O)
      case' x13=>
       replace G:=G.mono ab;refine xS (A:=[]) (ρ:=rpI) G dK ?_;intro df U ho;refine jN (λX=>zL (ρ:=(rpS rpI)) (m:=1) (xs:=[(lU (II.getD i []) q J)]) (ps':=[(0,_)]) underlying51 qX I I I wG e2z (zD I (Pc.arr (Pc.here _) [] 0 dC) ho zO) zoj nP) I ?_;intro bm bo ak;obtain⟨ax,rfl,H⟩:=ak;refine zAL I I (sC (ev1 I) call88 (λw hs=>vM hs oM oM) λbl de O ah=>?_);obtain⟨rfl,ar⟩:=kL ah;refine tK I (aC I (λ_ _=>wY (pa:=((([115]:List Nat)++(qP (((↑i:Int):Int):Rat)))++([46]:List Nat))) (pb:=(qP (((↑q:Int):Int):Rat))) I I zov) I (j3 ?_));replace Z:=Z.mono ((ab.trans U).trans O);replace H:=H.mono O
     case' x11=>
      refine xS (A:=[]) (ρ:=rpI) G dK ?_;intro go ab hn;refine jN (λX=>zL (ρ:=(rpS rpI)) (m:=1) (xs:=[(lU (II.getD i []) q J)]) (ps':=[(0,_)]) underlying51 qX I I I wG e2z (zD I (Pc.arr (Pc.here _) [] 0 dC) hn zO) zoj nP) I ?_
      rintro bm bo ⟨ax,rfl,H⟩
      refine zAL I I (sC (ev1 I) call88 (λw hs=>vM hs oM oM) λdn df U ba=>?_);obtain⟨rfl,br⟩:=kL ba;refine tK I (aC I (λ_ _=>wY (pa:=([115]:List Nat)) (pb:=(qP (((↑i:Int):Int):Rat))) I I zov) I (tK I (aC I (λ_ _=>wY (pa:=(([115]:List Nat)++(qP (((↑i:Int):Int):Rat)))) (pb:=([46]:List Nat)) I I zov) I (zAL I I (sC (ev1 I) call88 (λw hs=>vM hs oM oM) λbl de O ah=>?_)))));obtain⟨rfl,ar⟩:=kL ah;refine tK I (aC I (λ_ _=>wY (pa:=((([115]:List Nat)++(qP (((↑i:Int):Int):Rat)))++([46]:List Nat))) (pb:=(qP (((↑q:Int):Int):Rat))) I I zov) I (j3 ?_));replace Z:=Z.mono ((ab.trans U).trans O);replace H:=H.mono (U.trans O)
   case' x3=>
    refine jN (λX=>zL (ρ:=rpI) (m:=4) (xs:=(lU (II.getD i []) q J)) (ps':=[(0,_),(1,_),(2,_),(3,_)]) underlying22 jV I I I wL e8 (zD I (Pc.arr (Pc.here _) (0:Int) 0 dC) (wH oM oM) (zD I (Pc.arr (Pc.here _) (0:Int) 1 dC) (wH oM oM) (zD I (Pc.arr (Pc.here _) (0:Int) 2 dC) (wH oM oM) (zD I (Pc.arr (Pc.here _) (0:Int) 3 dC) (wH oM oM) zO)))) zon nP) I ?_
    rintro fg fz ⟨es,rfl,G⟩
    refine zD4 I I I I ?x14 ?x15
    case' x14=>
     refine sC (ev2 I I) call56 (λw hs=>cE hs dr dq oM) λjf rn ay bb=>?_;replace bb:=Rp.Is.le bb (Le.q (l:=15*k+15*l1+15*l2+93) oM);refine tK I ?_;replace bn:=bn.mono ay;refine xX I (xV (ρ:=(tPl (4*k+4*l1+4*l2+23) (15*k+15*l1+15*l2+93))) (xZ (ps':=[(0,_),(1,_)]) underlying50 sM I I (rG underlying50) e4z I (yC (xO (yI oM)) (yI oM)) (zD I (Pc.fst (Pc.here _)) bn (zD I (Pc.snd (Pc.here _)) bb zO)))) λje Z=>?_;refine zD4 I I I I ?x16 ?x17
     case' x16=>
      refine sC (ev1 I) call88 (λw hs=>vM hs oM oM) λdn go ab ba=>?_;obtain⟨rfl,br⟩:=kL ba;refine tK I (aC I (λ_ _=>wY (pa:=([115]:List Nat)) (pb:=(qP (((↑i:Int):Int):Rat))) I I zov) I (tK I (aC I (λ_ _=>wY (pa:=(([115]:List Nat)++(qP (((↑i:Int):Int):Rat)))) (pb:=([46]:List Nat)) I I zov) I ?_)));refine zD4 I I I I ?x18 ?x19
      case' x18=>
       refine sC (ev1 I) call88 (λw hs=>vM hs oM oM) λbl df U ah=>?_;obtain⟨rfl,ar⟩:=kL ah;refine tK I (aC I (λ_ _=>wY (pa:=((([115]:List Nat)++(qP (((↑i:Int):Int):Rat)))++([46]:List Nat))) (pb:=(qP (((↑q:Int):Int):Rat))) I I zov) I (zN7 I I ?_));replace G:=G.mono ((ay.trans ab).trans U);refine xS (A:=[]) (ρ:=rpI) G dK ?_;intro de O hm;refine jN (λX=>zL (ρ:=(rpS rpI)) (m:=1) (xs:=[(lU (II.getD i []) q J)]) (ps':=[(0,_)]) underlying51 qX I I I wG e2z (zD I (Pc.arr (Pc.here _) [] 0 dC) hm zO) zoj nP) I ?_;intro bm bo ak;obtain⟨ax,rfl,H⟩:=ak;refine j3 ?_;replace Z:=Z.mono ((ab.trans U).trans O)
      case' x19=>
       replace G:=G.mono (ay.trans ab);refine xS (A:=[]) (ρ:=rpI) G dK ?_;intro df U hk;refine jN (λX=>zL (ρ:=(rpS rpI)) (m:=1) (xs:=[(lU (II.getD i []) q J)]) (ps':=[(0,_)]) underlying51 qX I I I wG e2z (zD I (Pc.arr (Pc.here _) [] 0 dC) hk zO) zoj nP) I ?_;intro bm bo ak;obtain⟨ax,rfl,H⟩:=ak;refine zAL I I (sC (ev1 I) call88 (λw hs=>vM hs oM oM) λbl de O ah=>?_);obtain⟨rfl,ar⟩:=kL ah;refine tK I (aC I (λ_ _=>wY (pa:=((([115]:List Nat)++(qP (((↑i:Int):Int):Rat)))++([46]:List Nat))) (pb:=(qP (((↑q:Int):Int):Rat))) I I zov) I (j3 ?_));replace Z:=Z.mono ((ab.trans U).trans O);replace H:=H.mono O
     case' x17=>
      replace G:=G.mono ay;refine xS (A:=[]) (ρ:=rpI) G dK ?_;intro go ab hj;refine jN (λX=>zL (ρ:=(rpS rpI)) (m:=1) (xs:=[(lU (II.getD i []) q J)]) (ps':=[(0,_)]) underlying51 qX I I I wG e2z (zD I (Pc.arr (Pc.here _) [] 0 dC) hj zO) zoj nP) I ?_;intro bm bo ak;obtain⟨ax,rfl,H⟩:=ak;refine zAL I I (sC (ev1 I) call88 (λw hs=>vM hs oM oM) λdn df U ba=>?_);obtain⟨rfl,br⟩:=kL ba;refine tK I (aC I (λ_ _=>wY (pa:=([115]:List Nat)) (pb:=(qP (((↑i:Int):Int):Rat))) I I zov) I (tK I (aC I (λ_ _=>wY (pa:=(([115]:List Nat)++(qP (((↑i:Int):Int):Rat)))) (pb:=([46]:List Nat)) I I zov) I (zAL I I (sC (ev1 I) call88 (λw hs=>vM hs oM oM) λbl de O ah=>?_)))));obtain⟨rfl,ar⟩:=kL ah;refine tK I (aC I (λ_ _=>wY (pa:=((([115]:List Nat)++(qP (((↑i:Int):Int):Rat)))++([46]:List Nat))) (pb:=(qP (((↑q:Int):Int):Rat))) I I zov) I (j3 ?_));replace Z:=Z.mono ((ab.trans U).trans O);replace H:=H.mono (U.trans O)
    case' x15=>
     refine xS (A:=[]) (ρ:=rpI) G dK ?_;intro rn ay hf;refine jN (λX=>zL (ρ:=(rpS rpI)) (m:=1) (xs:=[(lU (II.getD i []) q J)]) (ps':=[(0,_)]) underlying51 qX I I I wG e2z (zD I (Pc.arr (Pc.here _) [] 0 dC) hf zO) zoj nP) I ?_
     rintro bm bo ⟨ax,rfl,H⟩
     refine zAL I I ?_;replace dr:=dr.mono ay;replace dq:=dq.mono ay;refine sC (ev2 I I) call56 (λw hs=>cE hs dr dq oM) λjf go ab bb=>?_;replace bb:=Rp.Is.le bb (Le.q (l:=15*k+15*l1+15*l2+93) oM);refine tK I ?_;replace bn:=bn.mono (ay.trans ab);refine xX I (xV (ρ:=(tPl (4*k+4*l1+4*l2+23) (15*k+15*l1+15*l2+93))) (xZ (ps':=[(0,_),(1,_)]) underlying50 sM I I (rG underlying50) e4z I (yC (xO (yI oM)) (yI oM)) (zD I (Pc.fst (Pc.here _)) bn (zD I (Pc.snd (Pc.here _)) bb zO)))) λje Z=>(zAL I I (sC (ev1 I) call88 (λw hs=>vM hs oM oM) λdn df U ba=>?_));obtain⟨rfl,br⟩:=kL ba;refine tK I (aC I (λ_ _=>wY (pa:=([115]:List Nat)) (pb:=(qP (((↑i:Int):Int):Rat))) I I zov) I (tK I (aC I (λ_ _=>wY (pa:=(([115]:List Nat)++(qP (((↑i:Int):Int):Rat)))) (pb:=([46]:List Nat)) I I zov) I (zAL I I (sC (ev1 I) call88 (λw hs=>vM hs oM oM) λbl de O ah=>?_)))));obtain⟨rfl,ar⟩:=kL ah;refine tK I (aC I (λ_ _=>wY (pa:=((([115]:List Nat)++(qP (((↑i:Int):Int):Rat)))++([46]:List Nat))) (pb:=(qP (((↑q:Int):Int):Rat))) I I zov) I (j3 ?_));replace H:=H.mono ((ab.trans U).trans O);replace Z:=Z.mono (U.trans O)
   all_goals
    refine w_c I (xS (A:=[]) (ρ:=(rpS rpI)) H dK ?_);intro h18 gk hd;replace Z:=Z.mono gk;refine sX (xV (ρ:=(tFc (4*k+4*l1+4*l2+23) (15*k+15*l1+15*l2+93))) (xZ (ps':=[(0,_),(1,_),(2,_)]) underlying53 jE I I (bN underlying53) e6z I (yC (yC (xO (yI oM)) (yI oM)) (yC wG gH)) (zD I (Pc.fst (Pc.here _)) Z (zD I (Pc.snd (Pc.fst (Pc.here _))) hd (zD I (Pc.snd (Pc.snd (Pc.here _))) (cY ((((show ByB [115] by unfold ByB;decide).app br).app (show ByB [46] by unfold ByB;decide)).app ar)) zO))))) λvk ok=>?_;refine w_c I (jN (λX=>zL (ρ:=(tFc (4*k+4*l1+4*l2+23) (15*k+15*l1+15*l2+93))) (m:=1) (xs:=[(((nU PP ae (II.getD i []) q),xH (nU PP ae (II.getD i []) q) (pU PP ae ((II.getD i []).getD q 0))),([(lU (II.getD i []) q J)],(((([115]:List Nat)++(qP (((↑i:Int):Int):Rat)))++([46]:List Nat))++(qP (((↑q:Int):Int):Rat)))))]) (ps':=[(0,_)]) underlying36 jE I I I (yC (yC (xO (yI oM)) (yI oM)) (yC wG gH)) e2z (zD I (Pc.arr (Pc.here _) zA 0 dC) ok zO) zom nP) I ?_)
    rintro vj yl ⟨uo,rfl,kp⟩
    refine w_c I (xS (A:=[]) (ρ:=(tFc (4*k+4*l1+4*l2+23) (15*k+15*l1+15*l2+93))) kp dK ?_);intro uf jk hc;replace bw:=bw.mono (((((((fb.trans fa).trans ay).trans ab).trans U).trans O).trans gk).trans jk);refine fF (A:=[_,_,_,_]) (λX=>vX (zU (ρ:=(tFc (4*k+4*l1+4*l2+40) (100*k+100*l1+100*l2+1000))) (bytes:=264) underlying36 jE I I I I nP I I bw (hc.le (Le.s (Le.p (Le.p (Le.t (Le.q (l:=4*k+4*l1+4*l2+40) oM)) (Le.q (l:=100*k+100*l1+100*l2+1000) oM)) (Le.refl _)))) bO bO)) I (xJ zoy) ?_
    rintro ng yk ⟨gc,mz,rfl,ko⟩
    refine wI I (λ_ _=>(xU underlying39 I sizeOf36 I).cv (show _=vP aa 1 from congrArg (vP aa) zo3)) I ?_;replace am:=am.mono (((((ay.trans ab).trans U).trans O).trans gk).trans jk);refine yK (A:=[_,_,_,_,_,_,_,_,_,_,_]) I (uB sizeOf36 (Pc.snd (Pc.fst pH)) am (oS gc)) λjc ik=>(cK (rK (vO (e':=[(6,_),(10,_),(13,_),(20,_),(24,_),(25,_),(26,_),(29,_)]) e8 (zH (zF (mv I I (gv (zR (q:=1) I I oM oM) I (asg I I (yB (yO (A:=[]) (yO (A:=[]) ?_)))))))))));refine gqL ((q+1),(F1++[(((nU PP ae (II.getD i []) q),xH (nU PP ae (II.getD i []) q) (pU PP ae ((II.getD i []).getD q 0))),([(lU (II.getD i []) q J)],(((([115]:List Nat)++(qP (((↑i:Int):Int):Rat)))++([46]:List Nat))++(qP (((↑q:Int):Int):Rat)))))]),jc,ng,mz,uf) ?_ ?_
    · exact⟨mle,ik,ko,gc,by omega,by rw[mn,gn,ch,bj,List.append_assoc];rfl⟩
    omega
  have ef:q=(II.getD i []).length:=by omega
  refine fI (qE (qE (fH (rK (zH (zF (mv I I (gv (zR (q:=1) I I oM oM) I (asg I I (yB ?_))))))))));refine gqL ((i+1),F1,(C0++[zCH (II.getD i []) (II.getD i []).length]),(T0++[TL]),ca,dm,fe,ae,bz,fh,eu,jg,gr,mf) ?_ ?_
  · exact⟨mle,am,im.up,il.up,bw,iv,kv.up,gf,kq.up,ge,by omega,by rw[ja,ch];rfl,by rw[iw,ml,ek,ch];rfl,by rw[mn,ef,ch];rfl⟩
  omega
 have uh:i=(bxZ L).length:=by rw[yJB];omega
 rw[uh] at ja iw iz;refine fI (qE (qE (fH (zH (zQ (zF (gv ((xU underlying39 I sizeOf36 I).cv (show _=vP aa 1 from congrArg (vP aa) zo3)) I (lX (tX (xB kR (Pc.snd (Pc.fst pH)) cd)) λvi oj=>?_))))))));subst oj;refine zP (A:=[_]) (ρ:=(rpS rpI)) ct ?_;intro h8 bt hb;replace bh:=bh.mono bt;have da:(tFc 5 (l1+l2+5)).R h8 di (((T3.mk (0:Rat) (0:Rat) (-((1:Int):Rat)),-lo),(ap,[98,111,116,116,111,109])).1,(C0,(((T3.mk (0:Rat) (0:Rat) (-((1:Int):Rat)),-lo),(ap,[98,111,116,116,111,109])).2).2)):=zEV bh hb;replace bq:=bq.mono bt;refine zP (A:=[]) (ρ:=(rpS rpI)) bq ?_;intro h9 cg ha;replace av:=av.mono (bt.trans cg);have ij:(tFc 5 (l1+l2+5)).R h9 cj (((T3.mk (0:Rat) (0:Rat) ((1:Int):Rat),hi),(an,[116,111,112])).1,(T0,(((T3.mk (0:Rat) (0:Rat) ((1:Int):Rat),hi),(an,[116,111,112])).2).2)):=zEV av ha;replace da:=da.mono cg;refine lX (xB pV pH da) λvh oi=>(lX (xB pV pH ij) λvg oh=>(zG (zL (ρ:=(tFc 5 (l1+l2+5))) (m:=2) (xs:=[(((T3.mk (0:Rat) (0:Rat) (-((1:Int):Rat)),-lo),(ap,[98,111,116,116,111,109])).1,(C0,(((T3.mk (0:Rat) (0:Rat) (-((1:Int):Rat)),-lo),(ap,[98,111,116,116,111,109])).2).2)),(((T3.mk (0:Rat) (0:Rat) ((1:Int):Rat),hi),(an,[116,111,112])).1,(T0,(((T3.mk (0:Rat) (0:Rat) ((1:Int):Rat),hi),(an,[116,111,112])).2).2))]) (ps':=[(0,_),(1,_)]) underlying36 jE I I I (yC (yC (xO (yI dC)) (yI oM)) (yC wG gH)) e4z (zD I (Pc.arr (Pc.here _) zA 0 dC) oi (zD I (Pc.arr (Pc.here _) zA 1 dC) oh zO)) (show 2*14<=16777216 from by decide) nP) I I I ?_))
 rintro vf yj ⟨un,rfl,kn⟩
 refine zP (A:=[]) (ρ:=(tFc 5 (l1+l2+5))) kn ?_;intro ms bp gz;replace cu:=cu.mono ((bt.trans cg).trans bp);refine xL (A:=[]) (vX (zU (ρ:=(tFc (4*k+4*l1+4*l2+40) (100*k+100*l1+100*l2+1000))) (bytes:=264) underlying36 jE I I I I nP I I cu (gz.le (Le.s (Le.p (Le.p (Le.t (Le.q (l:=4*k+4*l1+4*l2+40) oM)) (Le.q (l:=100*k+100*l1+100*l2+1000) oM)) (Le.refl _)))) bO bO)) I I I ?_
 rintro ve yi ⟨lu,um,rfl,km⟩
 refine gv ((xU underlying39 I sizeOf36 I).cv (show _=vP aa 1 from congrArg (vP aa) zo3)) I ?_;replace cd:=cd.mono ((bt.trans cg).trans bp);refine zW (A:=[_,_,_,_,_,_,_]) (uB sizeOf36 (Pc.snd (Pc.fst pH)) cd (oS lu)) λfd cz=>(yB (vO (e':=[(6,_),(10,_)]) e2z (zH (zQ (zF (zP (A:=[]) (ρ:=(tFc (4*k+4*l1+4*l2+40) (100*k+100*l1+100*l2+1000))) km ?_))))));intro gq cq gy;replace cz:=cz.mono cq;have ii:(tSd (k+l1+l2+5) (4*k+4*l1+4*l2+40) (100*k+100*l1+100*l2+1000) 1).R gq fd ((PP,(az,([]:List En))).1,((F0++[(((T3.mk (0:Rat) (0:Rat) (-((1:Int):Rat)),-lo),(ap,[98,111,116,116,111,109])).1,(C0,(((T3.mk (0:Rat) (0:Rat) (-((1:Int):Rat)),-lo),(ap,[98,111,116,116,111,109])).2).2)),(((T3.mk (0:Rat) (0:Rat) ((1:Int):Rat),hi),(an,[116,111,112])).1,(T0,(((T3.mk (0:Rat) (0:Rat) ((1:Int):Rat),hi),(an,[116,111,112])).2).2))]),((PP,(az,([]:List En))).2).2)):=zEV cz gy;have ih:(tSd (k+l1+l2+5) (4*k+4*l1+4*l2+40) (100*k+100*l1+100*l2+1000) 1).R gq fd (prR L lo hi):=Rp.castR ii (by rw[iz,gn,ja,iw];rfl);refine lX (xB jB pH ih) λvd og=>?_;refine qA (vs:=[_]) I I I I call47 ⟨I,trivial⟩ (λw hs=>s7 hs og oM oM oM (by first|omega|exact hcd4 rh)) ?_;intro vc mo zh fb dp;obtain⟨rt,jb,dp,rfl,iu,bv⟩:=dp
 change RL (tFc (4*(4*k+4*l1+4*l2+40)+12) ((4*k+4*l1+4*l2+40)+(100*k+100*l1+100*l2+1000)+12)) mo jb (nrF (prR L lo hi)) at bv
 replace dp:=Rp.Is.le dp (Le.p (Le.s (Le.t (Le.q (l:=k+l1+l2+6) oM))) (Le.p (Le.refl _) (Le.s (Le.p (Le.refl _) (Le.p (Le.refl _) (Le.q (l:=2) oM))))));replace bv:=(Le.p (Le.p (Le.t (Le.q (l:=16*k+16*l1+16*l2+172) oM)) (Le.q (l:=104*k+104*l1+104*l2+1052) oM)) (Le.refl _)).rl bv;replace bi:=bi.mono ((((((((((((((dv.trans eh).trans du).trans cf).trans bs).trans aq).trans cm).trans dd).trans gj).trans jh).trans bt).trans cg).trans bp).trans cq).trans fb);have gu:=(Le.p (Le.s (Le.t (Le.q (l:=k+l1+l2+6) oM))) (Le.p (Le.refl _) (Le.s (Le.p (Le.refl _) (Le.p (Le.refl _) (Le.q (l:=2) dC)))))).R bi;refine zW (A:=[_,_,_,_,_,_,_,_]) (uB sizeOf39 pH gu dp) λrp ig=>(asg (v:=vI (0)) I I (yB (zH (lG ?_))));rw[rh,rf,tt];refine wT (kJ (t:=6) jB (.tail _ mh7) I ig) ?_;intro rs ga id;refine kO (.cons_cons _ (List.nil_sublist _)) (λE S=>jS I ga (tE I) E S) ?_;exact⟨_,_,_,I,(Rp.Is.cast (Rp.Is.le id (Le.p (Le.s (Le.t (Le.q (l:=k+l1+l2+20) oM))) (Le.p (Le.refl _) (Le.s (Le.p (Le.refl _) (Le.p (Le.refl _) (Le.q (l:=5) dC))))))) (by rw[show nrE (prR L lo hi)=[] from by unfold nrE;split<;>rfl])),I,iu,((Le.p (Le.p (Le.t (Le.q (l:=1000*k+1000*l1+1000*l2+2000) oM)) (Le.q (l:=1000*k+1000*l1+1000*l2+2000) oM)) (Le.refl _)).rl bv)⟩
end Go.Proofs.YtpkaegemlpaenaaGreat
namespace Bk
open Classical
def eX{α:Type}(f:α->α)(d:α)(A:List α):Nat->List α
  |0=>A
  |k+1=>(eX f d A k).set k (f ((eX f d A k).getD k d))
theorem iX{α:Type}(f:α->α)(d:α)(A:List α):∀k,(eX f d A k).length=A.length
  |0=>rfl
  |k+1=>by
   show List.length (List.set _ _ _)=_
   rw[lS];exact iX f d A k
theorem zEX{α:Type}(f:α->α)(d:α)(A:List α):∀k i,i<A.length->(eX f d A k).getD i d=if i<k then f (A.getD i d) else A.getD i d
  |0,i,_=>rfl
  |k+1,i,h=>by
   show(List.set _ k _).getD i d=_
   rw[zoa,List.getElem?_set]
   split
   · rename_i e
     subst e;rw[if_pos (by rw[iX];exact h),if_pos zot,zEX f d A k k h,if_neg zot];rfl
   · rename_i e
     rw[<-zoa,zEX f d A k i h]
     by_cases h1:i<k
     · rw[if_pos h1,if_pos zot]
     · rw[if_neg h1,if_neg zot]
theorem yAK{α:Type}(f:α->α)(d:α)(A:List α):eX f d A A.length=A.map f:=by
 refine List.ext_getElem (by rw[iX,List.length_map]) λi h1 h2=>?_;rw[iX] at h1;have:=zEX f d A A.length i h1;rw[if_pos h1,zoa,zoc (by rw[iX];exact h1)] at this;rw[zoa,zoc h1] at this;rw[List.getElem_map];exact this
noncomputable def rnN(n:List Nat):List Nat:=if n=[98,111,116,116,111,109] then[122,48] else if n=[116,111,112] then[122,49] else if n=[115,48,46,48] then[121,48] else if n=[115,48,46,49] then[120,49] else if n=[115,48,46,50] then[121,49] else if n=[115,48,46,51] then[120,48] else n
noncomputable def rnF(f:Fc):Fc:=(f.1,(f.2.1,rnN f.2.2))
theorem zOC{F F0:List Fc}{i:Nat}{nm:List Nat}(hF:F=eX rnF zA F0 i)(h:rnN (F.getD i zA).2.2=nm):F.set i ((F.getD i zA).1,((F.getD i zA).2.1,nm))=eX rnF zA F0 (i+1):=by
 subst hF;subst h;rfl
theorem yJR{F F0:List Fc}{i:Nat}(hF:F=eX rnF zA F0 i)(h:rnN (F.getD i zA).2.2=(F.getD i zA).2.2)(hi:i<F.length):F=eX rnF zA F0 (i+1):=by
 rw[<-zOC hF h]
 show F=F.set i (F.getD i zA)
 rw[zoa,zoc hi];exact(List.set_getElem_self hi).symm
section
variable (a b:Pt)
def eV:Prop:=∀u,u<3->¬0<=xT (a.at u) (b.at u)
def blL:List (List Pt):=[[T3.mk a.x a.y (0:Rat),T3.mk b.x a.y (0:Rat),T3.mk b.x b.y (0:Rat),T3.mk a.x b.y (0:Rat)]]
noncomputable def blG:List Fc:=eX rnF zA (prF (blL a b) a.z b.z) (prF (blL a b) a.z b.z).length
noncomputable def blS:Sd:=(prP (blL a b) a.z b.z,blG a b,[])
noncomputable def blP:List Pt:=if eV a b then nrP (blS a b) else[]
noncomputable def blF:List Fc:=if eV a b then nrF (blS a b) else[]
noncomputable def blE:Int:=if eV a b then prE (blL a b) a.z b.z else 9
def blH:Prop:=(∀x,x∈blL a b->cQ x)/\(prE (blL a b) a.z b.z=0->okS (prR (blL a b) a.z b.z))/\okS (blS a b)
end
theorem yBO{L:List (List Pt)}{lo hi:Rat}(h:prE L lo hi=0->okS (prR L lo hi)):(prF L lo hi).length<=1000:=by
 unfold prF
 split
 · rename_i h0
   unfold nrF
   split
   · rw[zPP];exact(h h0).1.1.2
   · exact Nat.zero_le _
 · exact Nat.zero_le _
theorem bl_9{a b:Pt}(h:¬eV a b):blE a b=9/\blP a b=[]/\blF a b=[]:=⟨if_neg h,if_neg h,if_neg h⟩
theorem yC9{a b:Pt}(h:eV a b):blE a b=prE (blL a b) a.z b.z/\blP a b=nrP (blS a b)/\blF a b=nrF (blS a b):=⟨if_pos h,if_pos h,if_pos h⟩
end Bk
namespace Go.Proofs.YtpkaegemlpaenaaGreat
open Bk Go Tryz
set_option maxRecDepth 10000
set_option maxHeartbeats 1000000
attribute [local irreducible] GL GC GQ W OpV
set_option maxHeartbeats 1000000 in
theorem zIT{w0:World}{h0:Mem}(hs:MLe h0 (mem w0)){k l:Nat}{va:Value}{a:Tq}(ra:(tPt k).Is h0 va a){vb:Value}{b:Tq}(rb:(tPt l).Is h0 vb b)(hcd0:k<=5)(hcd1:l<=5)(hcd2:eV a b->blH a b):
 Calls Tryz.prog 15 #[va,vb] w0 (fW w0 h0 (λh r L_=>∃u0 vF cs,r=.tuple #[u0,vI (blE a b)]/\(rpP (tLs (2*k+2*l+40)) (rpP rpV (rpS (rpP rpI (rpP rpI (rpQ 6)))))).Is h u0 (blP a b,(vF,[]))/\L_=[.gs 53 14 vF (blF a b).length cs]/\vF.oneCell'=true/\RL (tFc (10000*k+10000*l+20000) (10000*k+10000*l+20000)) h cs (blF a b))):=by
 refine cb2 102 va vb func15 hs ?_;refine go2 ?_;refine nB ra λb2 cj am=>(nB rb λb3 ci ak=>(nA (ρ:=(rpP (tLs 1) (rpP rpV (rpS (rpP rpI (rpP rpI (rpQ 1))))))) (X:=([],((Value.slice none 0 0),[]))) qS (yC wG (yC gV wG)) λb4 ch cc=>(uG ?_)));refine gcL (ι:=Nat×Mem) (λ(i,ma)=>(MLe h0 ma/\(i<=3/\∀u,u<i->¬0<=xT (a.at u) (b.at u)),[(2,vP b2 0),(3,vP b3 0),(4,vP b4 0),(6,vI ↑i)],[.var b4 39 ch,.var b3 31 ci,.var b2 31 cj],ma,3-i)) (0,h0) ?_ ?_
 · exact⟨mle,by omega,λu h=>by omega⟩
 rintro⟨i,ma⟩ ⟨dx,fi,hi2⟩
 refine yW ?_;refine gc7 (λcg=>?_) λcg=>?_
 ·
  refine go5 ?_;refine zK 8 _ [] [(0,.q),(1,.q),(2,.q),(3,.q),(4,.q),(5,.q),(6,.c),(7,.q)] yA nX zou nX (λr hr=>hr) (go1 ?_);refine wI I (λ_ _=>(yG (sz:=3) i underlying31 sizeOf29 I I I oM).cv (show _=vP b2 ((i*3+0)) from congrArg (vP b2) oM)) I (wX I (xB yE (Pc.ta pH i oM) am) λfd dn=>(go1 ?_));refine wI I (λ_ _=>(yG (sz:=3) i underlying31 sizeOf29 I I I oM).cv (show _=vP b3 ((i*3+0)) from congrArg (vP b3) oM)) I (wX I (xB yE (Pc.ta pH i oM) ak) λfc dm=>?_);refine w_c I (sC (ev2 I I) call17 (λw hs=>tG hs dn dm oM) λcl h1 dq dl=>?_);obtain rfl:cl=vI (xT (a.at i) (b.at i)):=dl;have dr:=jA (a.at i) (b.at i);refine gc3 (λaq=>?_) λaq=>?_
  ·
   refine go2 ?_;refine lX (xV (ρ:=(rpP (tLs 1) (rpP rpV (rpS (rpP rpI (rpP rpI (rpQ 1))))))) (xZ (ps':=[]) underlying39 qS I I (rH underlying39) trivial I (yC wG (yC gV wG)) zO)) λfb dk=>(zW (A:=[]) (uB sizeOf39 pH cc dk) λdy cb=>(go9 ?_));obtain⟨e1,e2,e3⟩:=bl_9 (a:=a) (b:=b) (λe=>e i oM aq);rw[e1,e2,e3];refine aR 53 14 ?_;have bx:=RL.nil (ρ:=rpP (tPl (10000*k+10000*l+20000) (10000*k+10000*l+20000)) (rpP tII qI)) (h:=h1);refine wT (kJ (t:=4) jB mh1 I cb) ?_;intro ec bj bw;refine kO (.cons_cons _ (List.nil_sublist _)) (λE S=>jS I bj (tE I) E S) ?_;exact⟨_,_,_,I,(Rp.Is.le bw (Le.p (Le.s (Le.t (Le.q (l:=2*k+2*l+40) oM))) (Le.p (Le.refl _) (Le.s (Le.p (Le.refl _) (Le.p (Le.refl _) (Le.q (l:=6) dC))))))),I,I,bx⟩
  refine go8 ?_;refine gqL ((i+1),h1) ?_ ?_
  · exact⟨mle,by omega,wQ (Q:=λu=>¬0<=xT (a.at u) (b.at u)) hi2 aq⟩
  omega
 have cd:eV a b:=λu hu=>hi2 u oM;have an:=hcd2 cd;have fm:=yBO an.2.1;refine go8 ?_;refine lX (xB yE (Pc.tx pH) am) λfa dj=>(go1 ?_);refine lX (xB yE (Pc.ty pH) am) λez di=>(lX (xV (ρ:=(tPt (k+1))) (wB (ps':=[(0,_),(1,_)]) underlying31 yM I I sizeOf29 e4z I (xO (yI oM)) (zD I (Pc.tx (Pc.here _)) (dj.le (Le.q (l:=k+1) oM)) (zD I (Pc.ty (Pc.here _)) (di.le (Le.q (l:=k+1) oM)) zO)))) λey dh=>(go1 ?_));refine lX (xB yE (Pc.tx pH) ak) λew df=>(go1 ?_);refine lX (xB yE (Pc.ty pH) am) λev de=>(lX (xV (ρ:=(tPt (k+l+1))) (wB (ps':=[(0,_),(1,_)]) underlying31 yM I I sizeOf29 e4z I (xO (yI oM)) (zD I (Pc.tx (Pc.here _)) (df.le (Le.q (l:=k+l+1) oM)) (zD I (Pc.ty (Pc.here _)) (de.le (Le.q (l:=k+l+1) oM)) zO)))) λeu dd=>(go1 ?_));refine lX (xB yE (Pc.tx pH) ak) λes dc=>(go1 ?_);refine lX (xB yE (Pc.ty pH) ak) λer db=>(lX (xV (ρ:=(tPt (l+1))) (wB (ps':=[(0,_),(1,_)]) underlying31 yM I I sizeOf29 e4z I (xO (yI oM)) (zD I (Pc.tx (Pc.here _)) (dc.le (Le.q (l:=l+1) oM)) (zD I (Pc.ty (Pc.here _)) (db.le (Le.q (l:=l+1) oM)) zO)))) λeq da=>(go1 ?_));refine lX (xB yE (Pc.tx pH) am) λep cz=>(go1 ?_);refine lX (xB yE (Pc.ty pH) ak) λeo cy=>(lX (xV (ρ:=(tPt (k+l+1))) (wB (ps':=[(0,_),(1,_)]) underlying31 yM I I sizeOf29 e4z I (xO (yI oM)) (zD I (Pc.tx (Pc.here _)) (cz.le (Le.q (l:=k+l+1) oM)) (zD I (Pc.ty (Pc.here _)) (cy.le (Le.q (l:=k+l+1) oM)) zO)))) λen cw=>(zG (zL (ρ:=(tPt (k+l+1))) (m:=4) (xs:=[(zZ a),(T3.mk b.x a.y (0:Rat)),(zZ b),(T3.mk a.x b.y (0:Rat))]) (ps':=[(0,_),(1,_),(2,_),(3,_)]) underlying35 yM I I I (xO (yI oM)) e8 (zD I (Pc.arr (Pc.here _) zT 0 dC) (dh.le (Le.t (Le.q (l:=k+l+1) oM))) (zD I (Pc.arr (Pc.here _) zT 1 dC) dd (zD I (Pc.arr (Pc.here _) zT 2 dC) (da.le (Le.t (Le.q (l:=k+l+1) oM))) (zD I (Pc.arr (Pc.here _) zT 3 dC) cw zO)))) (show 4*9<=16777216 from by decide) nP) I I I ?_))
 rintro em fg ⟨ea,rfl,ca⟩
 refine zP (A:=[]) (ρ:=(tPt (k+l+1))) ca ?_;intro h1 dq bv;refine zG (zL (ρ:=(tLs (k+l+1))) (m:=1) (xs:=[[(zZ a),(T3.mk b.x a.y (0:Rat)),(zZ b),(T3.mk a.x b.y (0:Rat))]]) (ps':=[(0,_)]) underlying76 cZ I I I wG e2z (zD I (Pc.arr (Pc.here _) [] 0 dC) bv zO) zoj nP) I I I ?_
 rintro el ff ⟨dz,rfl,bz⟩
 refine go1 ?_;refine lX (xB yE (Pc.tz pH) am) λek cu=>(go1 ?_);refine lX (xB yE (Pc.tz pH) ak) λej ct=>(zP (A:=[]) (ρ:=(tLs (k+l+1))) bz ?_);intro h2 fl bu;refine qA (vs:=[_,_,_]) I I I I call46 e3z (λw hs=>zIP hs bu cu.up ct.up oM oM oM (by first|omega|exact an.1|exact an.2.1) (by first|omega|exact an.1|exact an.2.1)) ?_;intro eh h3 fq fk ao;obtain⟨fe,bt,au,rfl,ao,rfl,ce,ad⟩:=ao
 change RL (tFc (1000*(k+l+1)+1000*k+1000*l+2000) (1000*(k+l+1)+1000*k+1000*l+2000)) h3 au (prF [[(zZ a),(T3.mk b.x a.y (0:Rat)),(zZ b),(T3.mk a.x b.y (0:Rat))]] a.z b.z) at ad
 replace ao:=Rp.Is.le ao (Le.p (Le.s (Le.t (Le.q (l:=2*k+2*l+21) oM))) (Le.refl _));replace ad:=(Le.p (Le.p (Le.t (Le.q (l:=2000*k+2000*l+3000) oM)) (Le.q (l:=2000*k+2000*l+3000) oM)) (Le.refl _)).rl ad;refine go3 ?_;refine nA (ρ:=(rpP (tLs 1) (rpP rpV (rpS (rpP rpI (rpP rpI (rpQ 1))))))) (X:=([],((Value.slice none 0 0),[]))) qS (yC wG (yC gV wG)) λb7 fp cm=>?_;have aw:=(Le.p (Le.s (Le.t (Le.q (l:=2*k+2*l+21) oM))) (Le.p (Le.refl _) (Le.s (Le.p (Le.refl _) (Le.p (Le.refl _) (Le.q (l:=5) dC)))))).R cm;refine zW (A:=[]) (uB sizeOf39 pH aw ao) λbs bi=>(uG ?_);refine gcL (ι:=Nat×List Fc×List Value×Value×List Value×Mem) (λ(i,J,H,C,ae,mb)=>(MLe h3 mb/\((rpP (tLs (2*k+2*l+30)) (rpP rpV (rpS (rpP rpI (rpP rpI (rpQ 5)))))).R mb H (prP (blL a b) a.z b.z,(C,([]:List En)))/\RL (tFc (2000*k+2000*l+3000) (2000*k+2000*l+3000)) mb ae J/\C.oneCell'=true/\i<=(prF (blL a b) a.z b.z).length/\J=eX rnF zA (prF (blL a b) a.z b.z) i),[(4,vP b4 0),(7,vP b7 0),(8,vI (prE [[(zZ a),(T3.mk b.x a.y (0:Rat)),(zZ b),(T3.mk a.x b.y (0:Rat))]] a.z b.z)),(9,vI ↑i)],[.var b7 39 H,.gs 53 14 C J.length ae,.var b4 39 ch,.var b3 31 ci,.var b2 31 cj],mb,(prF (blL a b) a.z b.z).length-i)) (0,(prF (blL a b) a.z b.z),bs,bt,au,h3) ?_ ?_
 · exact⟨mle,((Le.p (Le.s (Le.t (Le.q (l:=2*k+2*l+30) oM))) (Le.refl _)).R bi),ad,ce,by omega,I⟩
 rintro⟨i,J,H,C,ae,mb⟩ ⟨dw,G,D,M,fh,Z⟩
 refine yW ?_;have fo:J.length=(prF (blL a b) a.z b.z).length:=by rw[Z];exact iX _ _ _ _
 refine go5 ?_;refine lX (tX (xB kR (Pc.snd (Pc.fst pH)) G)) λeg cq=>?_;subst cq;refine gv (jZ mh1 underlying36 I) I (gc3 (λcf=>?_) λcf=>?_)
 ·
  refine go7 ?_;refine lX (tX (xB kR (Pc.snd (Pc.fst pH)) G)) λef cp=>?_;subst cp;refine go1 ?_;refine gv ((yU i mh1 underlying36 sizeOf53 I I I bO nP).cv (show _=zI 1 C ((i*14+0)) from congrArg (zI 1 C) zo3)) I (go6 ?_);refine gv (rX (Pc.arr (Pc.here _) zA i bO) I nP D mh1 I) I (gv ((qU (Pc.arr (Pc.here _) zA i bO) I nP D mh1 underlying53 I sizeOf9 I).cv (show _=zI 1 C ((i*14+13)) from congrArg (zI 1 C) (by show(i*14+0)+13=(i*14+13);omega))) I (zHW (F:=λv_=>qI.Is mb v_ (((J.getD i zA).2).2)) (wM ty9 (Pc.arr (Pc.snd (Pc.snd (Pc.here _))) zA i bO) I nP I D I) (tQ mh1) I ?_));intro ee co;obtain⟨rfl,ab⟩:=kL co;refine go5 ?_;refine gv (mI (pa:=(((J.getD i zA).2).2)) (pb:=([98,111,116,116,111,109]:List Nat)) ab (show ByB [98,111,116,116,111,109] by unfold ByB;decide) I I) I (gc3 (λO=>?_) λO=>?_)
  ·
   refine go2 ?_;refine gv (rX (Pc.arr (Pc.here _) zA i bO) I nP D mh1 I) I (gv ((qU (Pc.arr (Pc.here _) zA i bO) I nP D mh1 underlying53 I sizeOf9 I).cv (show _=zI 1 C ((i*14+13)) from congrArg (zI 1 C) (by show(i*14+0)+13=(i*14+13);omega))) I (fT (A:=[_]) (F:=λc_=>RL (tFc (2000*k+2000*l+3000) (2000*k+2000*l+3000)) mb c_ (J.set i ((J.getD i zA).1,(((J.getD i zA).2).1,([122,48]:List Nat))))) (rU sizeOf9 (Pc.arr (Pc.snd (Pc.snd (Pc.here _))) zA i bO) I nP I I D (cY (show ByB [122,48] by unfold ByB;decide)) I) ?_));intro br be;refine go9 ?_;refine gqL ((i+1),(J.set i ((J.getD i zA).1,(((J.getD i zA).2).1,([122,48]:List Nat)))),H,C,br,mb) ?_ ?_
   · exact⟨mle,G,be,M,by omega,zOC Z (by unfold rnN;rw[if_pos O])⟩
   omega
  refine go2 ?_;refine gv (mI (pa:=(((J.getD i zA).2).2)) (pb:=([116,111,112]:List Nat)) ab (show ByB [116,111,112] by unfold ByB;decide) I I) I (gc3 (λU=>?_) λU=>?_)
  ·
   refine go2 ?_;refine gv (rX (Pc.arr (Pc.here _) zA i bO) I nP D mh1 I) I (gv ((qU (Pc.arr (Pc.here _) zA i bO) I nP D mh1 underlying53 I sizeOf9 I).cv (show _=zI 1 C ((i*14+13)) from congrArg (zI 1 C) (by show(i*14+0)+13=(i*14+13);omega))) I (fT (A:=[_]) (F:=λc_=>RL (tFc (2000*k+2000*l+3000) (2000*k+2000*l+3000)) mb c_ (J.set i ((J.getD i zA).1,(((J.getD i zA).2).1,([122,49]:List Nat))))) (rU sizeOf9 (Pc.arr (Pc.snd (Pc.snd (Pc.here _))) zA i bO) I nP I I D (cY (show ByB [122,49] by unfold ByB;decide)) I) ?_));intro bq bd;refine go9 ?_;refine gqL ((i+1),(J.set i ((J.getD i zA).1,(((J.getD i zA).2).1,([122,49]:List Nat)))),H,C,bq,mb) ?_ ?_
   · exact⟨mle,G,bd,M,by omega,zOC Z (by unfold rnN;rw[if_neg O,if_pos U])⟩
   omega
  refine go2 ?_;refine gv (mI (pa:=(((J.getD i zA).2).2)) (pb:=([115,48,46,48]:List Nat)) ab (show ByB [115,48,46,48] by unfold ByB;decide) I I) I (gc3 (λaa=>?_) λaa=>?_)
  ·
   refine go2 ?_;refine gv (rX (Pc.arr (Pc.here _) zA i bO) I nP D mh1 I) I (gv ((qU (Pc.arr (Pc.here _) zA i bO) I nP D mh1 underlying53 I sizeOf9 I).cv (show _=zI 1 C ((i*14+13)) from congrArg (zI 1 C) (by show(i*14+0)+13=(i*14+13);omega))) I (fT (A:=[_]) (F:=λc_=>RL (tFc (2000*k+2000*l+3000) (2000*k+2000*l+3000)) mb c_ (J.set i ((J.getD i zA).1,(((J.getD i zA).2).1,([121,48]:List Nat))))) (rU sizeOf9 (Pc.arr (Pc.snd (Pc.snd (Pc.here _))) zA i bO) I nP I I D (cY (show ByB [121,48] by unfold ByB;decide)) I) ?_));intro bp bc;refine go9 ?_;refine gqL ((i+1),(J.set i ((J.getD i zA).1,(((J.getD i zA).2).1,([121,48]:List Nat)))),H,C,bp,mb) ?_ ?_
   · exact⟨mle,G,bc,M,by omega,zOC Z (by unfold rnN;rw[if_neg O,if_neg U,if_pos aa])⟩
   omega
  refine go2 ?_;refine gv (mI (pa:=(((J.getD i zA).2).2)) (pb:=([115,48,46,49]:List Nat)) ab (show ByB [115,48,46,49] by unfold ByB;decide) I I) I (gc3 (λai=>?_) λai=>?_)
  ·
   refine go2 ?_;refine gv (rX (Pc.arr (Pc.here _) zA i bO) I nP D mh1 I) I (gv ((qU (Pc.arr (Pc.here _) zA i bO) I nP D mh1 underlying53 I sizeOf9 I).cv (show _=zI 1 C ((i*14+13)) from congrArg (zI 1 C) (by show(i*14+0)+13=(i*14+13);omega))) I (fT (A:=[_]) (F:=λc_=>RL (tFc (2000*k+2000*l+3000) (2000*k+2000*l+3000)) mb c_ (J.set i ((J.getD i zA).1,(((J.getD i zA).2).1,([120,49]:List Nat))))) (rU sizeOf9 (Pc.arr (Pc.snd (Pc.snd (Pc.here _))) zA i bO) I nP I I D (cY (show ByB [120,49] by unfold ByB;decide)) I) ?_));intro bo bb;refine go9 ?_;refine gqL ((i+1),(J.set i ((J.getD i zA).1,(((J.getD i zA).2).1,([120,49]:List Nat)))),H,C,bo,mb) ?_ ?_
   · exact⟨mle,G,bb,M,by omega,zOC Z (by unfold rnN;rw[if_neg O,if_neg U,if_neg aa,if_pos ai])⟩
   omega
  refine go2 ?_;refine gv (mI (pa:=(((J.getD i zA).2).2)) (pb:=([115,48,46,50]:List Nat)) ab (show ByB [115,48,46,50] by unfold ByB;decide) I I) I (gc3 (λaj=>?_) λaj=>?_)
  ·
   refine go2 ?_;refine gv (rX (Pc.arr (Pc.here _) zA i bO) I nP D mh1 I) I (gv ((qU (Pc.arr (Pc.here _) zA i bO) I nP D mh1 underlying53 I sizeOf9 I).cv (show _=zI 1 C ((i*14+13)) from congrArg (zI 1 C) (by show(i*14+0)+13=(i*14+13);omega))) I (fT (A:=[_]) (F:=λc_=>RL (tFc (2000*k+2000*l+3000) (2000*k+2000*l+3000)) mb c_ (J.set i ((J.getD i zA).1,(((J.getD i zA).2).1,([121,49]:List Nat))))) (rU sizeOf9 (Pc.arr (Pc.snd (Pc.snd (Pc.here _))) zA i bO) I nP I I D (cY (show ByB [121,49] by unfold ByB;decide)) I) ?_));intro bn ba;refine go9 ?_;refine gqL ((i+1),(J.set i ((J.getD i zA).1,(((J.getD i zA).2).1,([121,49]:List Nat)))),H,C,bn,mb) ?_ ?_
   · exact⟨mle,G,ba,M,by omega,zOC Z (by unfold rnN;rw[if_neg O,if_neg U,if_neg aa,if_neg ai,if_pos aj])⟩
   omega
  refine go2 ?_;refine gv (mI (pa:=(((J.getD i zA).2).2)) (pb:=([115,48,46,51]:List Nat)) ab (show ByB [115,48,46,51] by unfold ByB;decide) I I) I (gc3 (λap=>?_) λap=>?_)
  ·
   refine go2 ?_;refine gv (rX (Pc.arr (Pc.here _) zA i bO) I nP D mh1 I) I (gv ((qU (Pc.arr (Pc.here _) zA i bO) I nP D mh1 underlying53 I sizeOf9 I).cv (show _=zI 1 C ((i*14+13)) from congrArg (zI 1 C) (by show(i*14+0)+13=(i*14+13);omega))) I (fT (A:=[_]) (F:=λc_=>RL (tFc (2000*k+2000*l+3000) (2000*k+2000*l+3000)) mb c_ (J.set i ((J.getD i zA).1,(((J.getD i zA).2).1,([120,48]:List Nat))))) (rU sizeOf9 (Pc.arr (Pc.snd (Pc.snd (Pc.here _))) zA i bO) I nP I I D (cY (show ByB [120,48] by unfold ByB;decide)) I) ?_));intro bm az;refine go9 ?_;refine gqL ((i+1),(J.set i ((J.getD i zA).1,(((J.getD i zA).2).1,([120,48]:List Nat)))),H,C,bm,mb) ?_ ?_
   · exact⟨mle,G,az,M,by omega,zOC Z (by unfold rnN;rw[if_neg O,if_neg U,if_neg aa,if_neg ai,if_neg aj,if_pos ap])⟩
   omega
  refine go9 ?_;refine gqL ((i+1),J,H,C,ae,mb) ?_ ?_
  · exact⟨mle,G,D,M,by omega,yJR Z (by unfold rnN;rw[if_neg O,if_neg U,if_neg aa,if_neg ai,if_neg aj,if_neg ap]) oM⟩
  omega
 have ei:i=(prF (blL a b) a.z b.z).length:=by omega
 rw[ei] at Z;refine go7 ?_;refine zP (A:=[_]) (ρ:=(tFc (2000*k+2000*l+3000) (2000*k+2000*l+3000))) D ?_;intro h4 dp ax;replace G:=G.mono dp;have bh:(tSd (2*k+2*l+30) (2000*k+2000*l+3000) (2000*k+2000*l+3000) 5).R h4 H ((prP (blL a b) a.z b.z,(C,([]:List En))).1,(J,((prP (blL a b) a.z b.z,(C,([]:List En))).2).2)):=zEV G ax;have bg:(tSd (2*k+2*l+30) (2000*k+2000*l+3000) (2000*k+2000*l+3000) 5).R h4 H (blS a b):=Rp.castR bh (by rw[Z];rfl);refine lX (xB jB pH bg) λed cn=>?_;refine qA (vs:=[_]) I I I I call47 ⟨I,trivial⟩ (λw hs=>s7 hs cn oM oM oM (by first|omega|exact an.2.2)) ?_;intro dv h5 eb fj ah;obtain⟨ck,bl,ah,rfl,bk,ac⟩:=ah
 change RL (tFc (4*(2000*k+2000*l+3000)+12) ((2000*k+2000*l+3000)+(2000*k+2000*l+3000)+12)) h5 bl (nrF (blS a b)) at ac
 replace ah:=Rp.Is.le ah (Le.p (Le.s (Le.t (Le.q (l:=2*k+2*l+31) oM))) (Le.p (Le.refl _) (Le.s (Le.p (Le.refl _) (Le.p (Le.refl _) (Le.q (l:=6) oM))))));replace ac:=(Le.p (Le.p (Le.t (Le.q (l:=8000*k+8000*l+12012) oM)) (Le.q (l:=4000*k+4000*l+6012) oM)) (Le.refl _)).rl ac;refine go1 ?_;have av:=(Le.p (Le.s (Le.t (Le.q (l:=2*k+2*l+31) oM))) (Le.p (Le.refl _) (Le.s (Le.p (Le.refl _) (Le.p (Le.refl _) (Le.q (l:=6) dC)))))).R cc;refine zW (A:=[_,_]) (uB sizeOf39 pH av ah) λdt bf=>(go4 ?_);obtain⟨e1,e2,e3⟩:=yC9 cd;rw[e1,e2,e3];refine wT (kJ (t:=4) jB mh2 I bf) ?_;intro du ar ay;refine kO (.cons_cons _ (List.nil_sublist _)) (λE S=>jS I ar (tE I) E S) ?_;exact⟨_,_,_,I,(Rp.Is.cast (Rp.Is.le ay (Le.p (Le.s (Le.t (Le.q (l:=2*k+2*l+40) oM))) (Le.refl _))) (by rw[show nrE (blS a b)=[] from by unfold nrE;split<;>rfl])),I,bk,((Le.p (Le.p (Le.t (Le.q (l:=10000*k+10000*l+20000) oM)) (Le.q (l:=10000*k+10000*l+20000) oM)) (Le.refl _)).rl ac)⟩
end Go.Proofs.YtpkaegemlpaenaaGreat
namespace Bk
open Go Go.RowKit
def yDE(w0:World)(h0:Mem)(h:Mem)(X:List Res)(G:Mem->Value->List Res->Prop):Ending->World->Prop:=
 fW w0 h0 (λg v K=>∃Qs',(Qs'++X).Sublist K/\MLe h g/\G g v Qs')
section
variable {P:Program}{n:Nat}{w0:World}{h0:Mem}{e:List (Nat×Value)}{L:List Res}{h:Mem}{Q:Exit->Act->World->Prop}
variable {ty:TypeId}{ps:String}{af:Array Edge}
theorem zK1{ops:Array Oper}{l:List Oper}{A B:List Res}{r:Res}(k':GL P n w0 h0 ops Q l e (A++r::B) h):GL P n w0 h0 ops Q l e (r::(A++B)) h:=
 λa w E S=>k' a w E (S.perm List.perm_middle.symm)
theorem zK0{ops:Array Oper}{rest:List Oper}{d f:Nat}{xs:List Operand}{ts:Array TypeId}{vs:List Value}{Qs X:List Res}{G:Mem->Value->List Res->Prop}(hp:L.Perm (Qs++X))(hcall:∀args w,(callFunc f args).run P w=.ok (.enter f args) w)(hvs:cR e xs vs)
    (hc:∀w,St w0 h0 (Qs++X) h w->Calls P f vs.toArray w (yDE w0 h0 h X G))(hn:Nat.ble (d+1) n=true)(k:∀v g Qs',MLe h g->G g v Qs'->GL P n w0 h0 ops Q rest ((d,v)::e) (Qs'++X) g):
    GL P n w0 h0 ops Q (⟨some d,.call {callee:=.value (.func f),args:=xs.toArray,argTypes:=ts},ty,ps,af,none⟩::rest) e L h:=by
 intro a w D S;refine nH I I I hn hcall hvs hc ?_ a w D (S.perm hp)
 rintro v g K ⟨Qs',H,C,J⟩
 have:=k v g Qs' C J;exactλa w D S=>this a w D (S.sublist H)
end
section
variable {α β:Type}{h:Mem}
theorem vr_1{π:Rp α}{ρ:Rp β}{cs:List Value}{p:α}{v:Value}{xs:List β}(r:(rpP π rpV).R h cs (p,v))(k:(rpS ρ).Is h v xs):(rpP π (rpS ρ)).R h cs (p,xs):=by
 obtain⟨a,b,e,D,C,_⟩:=r;exact⟨a,b,e,D,by rw[show b=[v] from C];exact zJX k⟩
end
end Bk
namespace Bk
open Classical
def thN(a b c:Pt):Pt:=xQ (uL b a) (uL c a)
noncomputable def thZ(a b c:Pt):Pl:=if thN a b c=zT then zS7 else(thN a b c,xH (thN a b c) a)
noncomputable def thE(a b c:Pt):Int:=if thN a b c=zT then 9 else 0
theorem yJV{a b c:Pt}(h:thN a b c=zT):thZ a b c=zS7/\thE a b c=9:=⟨if_pos h,if_pos h⟩
theorem zU4{a b c:Pt}(h:¬thN a b c=zT):thZ a b c=(thN a b c,xH (thN a b c) a)/\thE a b c=0:=⟨if_neg h,if_neg h⟩
def opP(pl:Pl):Pl:=(T3.mk (((-1:Int):Rat)*pl.1.x) (((-1:Int):Rat)*pl.1.y) (((-1:Int):Rat)*pl.1.z),-pl.2)
section
variable (l:List Pt)(t:Pt)
noncomputable def pyX(i:Nat):Fc:=(thZ (l.getD i zT) (l.getD ((i+1)%l.length) zT) t,[[(i:Int),(((i+1)%l.length:Nat):Int),(l.length:Int)]],[115]++qP (((i:Int):Int):Rat))
noncomputable def pyT:Nat->List Fc:=uZ (pyX l t)
def pyL(n:Nat):Nat->List Int:=uZ λi=>(n:Int)-1-(i:Int)
noncomputable def pyB:Fc:=(opP (thZ (l.getD 0 zT) (l.getD 1 zT) (l.getD 2 zT)),[pyL l.length l.length],[98,97,115,101])
noncomputable def pyR:Sd:=(l++[t],pyT l t l.length++[pyB l],[])
def pyH:Prop:=((3<=l.length/\l.length<=64)/\¬thN (l.getD 0 zT) (l.getD 1 zT) (l.getD 2 zT)=zT)/\(zG7 (thZ (l.getD 0 zT) (l.getD 1 zT) (l.getD 2 zT)) l/\0<sdZ (thZ (l.getD 0 zT) (l.getD 1 zT) (l.getD 2 zT)) t)/\okS (pyR l t)
end
def ag(x p y q:Rat)(u:PI):P2:=(x+p*(u.1:Rat),y+q*(u.2:Rat))
theorem zJH{x p:Rat}{u v:Int}(hp:0<p):x+p*(u:Rat)<x+p*(v:Rat)↔u<v:=by
 constructor
 · intro h
   refine Int.not_le.1 λe=>?_;have h1:(v:Rat)<=(u:Rat):=Rat.intCast_le_intCast.2 e;have h2:=Rat.mul_le_mul_of_nonneg_left h1 (Rat.le_of_lt hp);grind
 · intro h
   have h1:(u:Rat)<(v:Rat):=Rat.intCast_lt_intCast.2 h;have h2:=Rat.mul_lt_mul_of_pos_left h1 hp;grind
theorem zQI{x p:Rat}{u v:Int}(hp:0<p):x+p*(u:Rat)=x+p*(v:Rat)↔u=v:=by
 constructor
 · intro h
   rcases Int.lt_trichotomy u v with h1|h1|h1
   · have:=(zJH (x:=x) hp).2 h1;grind
   · exact h1
   · have:=(zJH (x:=x) hp).2 h1;grind
 · rintro rfl;rfl
variable {x p y q:Rat}
theorem yEI(u v w:PI):cr (ag x p y q u) (ag x p y q v) (ag x p y q w)=p*q*((crI u v w:Int):Rat):=by
 unfold cr ag crI;simp only[Rat.intCast_sub,Rat.intCast_mul];grind
theorem kP(hp:0<p)(hq:0<q):0<p*q:=by
 have:=Rat.mul_lt_mul_of_pos_left hq hp;grind
theorem zZ5(hp:0<p)(hq:0<q)(u v w:PI):orZ (ag x p y q u) (ag x p y q v) (ag x p y q w)=orI u v w:=by
 unfold orZ orI;rw[yEI,iA (kP hp hq),mA]
 rfl
theorem yEG(hp:0<p)(hq:0<q)(u v:PI):lx (ag x p y q u) (ag x p y q v)↔lxI u v=true:=by
 unfold lx lxI;rw[decide_eq_true_iff];unfold ag;simp only[zJH hp,zJH hq,zQI hp]
theorem yEH(hp:0<p)(hq:0<q)(u v:PI):ag x p y q u=ag x p y q v↔u=v:=by
 obtain⟨D,C⟩:=u;obtain⟨v1,v2⟩:=v;unfold ag;rw[Prod.mk.injEq,Prod.mk.injEq,zQI hp,zQI hq]
theorem yEJ{a b c d:Int}(hp:0<p):kH (x+p*(a:Rat)) (x+p*(b:Rat)) (x+p*(c:Rat)) (x+p*(d:Rat))↔apI a b c d=true:=by
 unfold kH apI;rw[decide_eq_true_iff];simp only[zJH hp]
theorem zZ7{c:Prop} [Decidable c](u v:PI):(if c then ag x p y q u else ag x p y q v)=ag x p y q (if c then u else v):=by split<;>rfl
theorem yLQ(hp:0<p)(hq:0<q)(a b c d:PI):eH (ag x p y q a) (ag x p y q b) (ag x p y q c) (ag x p y q d)=alS a b c d:=by
 unfold eH alS;simp only[yEG hp hq,zZ7,yEH hp hq]
theorem zN4(hp:0<p)(hq:0<q)(a b c d:PI):fZ (ag x p y q a) (ag x p y q b) (ag x p y q c) (ag x p y q d)=toI a b c d:=by
 have D:kH (ag x p y q a).1 (ag x p y q b).1 (ag x p y q c).1 (ag x p y q d).1↔apI a.1 b.1 c.1 d.1=true:=yEJ hp;have C:kH (ag x p y q a).2 (ag x p y q b).2 (ag x p y q c).2 (ag x p y q d).2↔apI a.2 b.2 c.2 d.2=true:=yEJ hq;unfold fZ toI lM alI lo2 hi2;simp only[zZ5 hp hq,D,C,yEG hp hq,zZ7,yLQ hp hq]
def gI(s:List PI)(m:Nat):PI:=s.getD m (0,0)
def zSP(s:List PI):Bool:=decide (3<=s.length)&&(List.range s.length).all λb=>(List.range b).all λa=>!decide (gI s a=gI s b)&&decide (toI (gI s a) (gI s ((a+1)%s.length)) (gI s b) (gI s ((b+1)%s.length))=waI s.length a b)
theorem zFI(hp:0<p)(hq:0<q){l:List Pt}{s:List PI}(hl:l.length=s.length)(h:∀m,m<s.length->pr (gp l m) 0 1=ag x p y q (gI s m))(hb:zSP s=true):aG l 0 1:=by
 unfold zSP at hb;rw[Bool.and_eq_true,decide_eq_true_iff,zob] at hb;obtain⟨h3,hb⟩:=hb;have g:∀a b,a<b->b<s.length->¬gI s a=gI s b/\toI (gI s a) (gI s ((a+1)%s.length)) (gI s b) (gI s ((b+1)%s.length))=waI s.length a b:=λa b C D=>by
  have h1:=zob.1 (hb b (zog.2 D)) a (zog.2 C);rw[Bool.and_eq_true,Bool.not_eq_true',decide_eq_false_iff_not,decide_eq_true_iff] at h1;exact h1
 refine⟨by omega,λa b H C G=>?_,λa b H C G=>?_⟩
 · show ¬pr (gp l a) 0 1=pr (gp l b) 0 1
   rw[h a zot,h b zot,yEH hp hq];exact(g a b C zot).1
 · show fZ (vV l 0 1 a) (vS l 0 1 a) (vV l 0 1 b) (vS l 0 1 b)=zH4 l.length a b
   unfold vV vS;rw[hl,h a zot,h b zot,h _ (Nat.mod_lt _ zot),h _ (Nat.mod_lt _ zot),zN4 hp hq];exact(g a b C zot).2
theorem zGD{P:List Pt}(hs:aG P 0 1)(hl:P.length<=64)(ha:0<yR (arZ P 0 1)):uA [P] 0 1=0:=by
 have D:∀m,m<[P].length->gl [P] m=P:=λm C=>by
  rw[show m=0 by rw[List.length_singleton] at C;omega];rfl
 unfold uA;rw[if_neg (λe=>by
  rcases e with e|⟨m,C,e⟩
  · rw[List.length_singleton] at e;omega
  · rw[D m C] at e;omega),if_neg (λe=>by
  obtain⟨m,C,e⟩:=e;rw[D m C] at e;exact e hs),if_neg (λe=>by
  obtain⟨a,b,H,G,_⟩:=e;rw[List.length_singleton] at G;omega),if_neg (λe=>by
  rcases e with⟨k,hk,e⟩|⟨a,b,ha',hb',e⟩
  · rw[eM,D k hk] at e;exact e.1 ha
  · rw[List.length_singleton] at ha' hb'
    exact e.1.1.1 zot)]
theorem zRT{B:List Pt}{p:Pt}:∀j,(∀i,i<j->¬zJP (B.getD i zT) p)->y4 B p j= -1
  |0,_=>rfl
  |j+1,h=>by
   rw[<-yH9 (h j zot)];exact zRT j λi hi=>h i zot
theorem yJK{B:List Pt}{p:Pt}(h:∀i,i<B.length->¬zJP (B.getD i zT) p):adB B p=B++[p]/\adN B p=(B.length:Int):=by
 have h1:fdZ B p<0:=by unfold fdZ;rw[zRT _ h];decide
 exact⟨if_pos h1,if_pos h1⟩
def rgI:Nat->List Int:=uZ λi=>(i:Int)
theorem zSL{l:List Pt}{i k:Nat}(h:i<k):(l.take k).getD i zT=l.getD i zT:=by
 rw[zoa,zoa,List.getElem?_take,if_pos h]
def zNN(l:List Pt):Prop:=∀i j,i<j->j<l.length->¬zJP (l.getD i zT) (l.getD j zT)
theorem zOY{l:List Pt}(hd:zNN l):∀k,k<=l.length->plB [] l k=l.take k/\plN [] l k=rgI k
  |0,_=>⟨rfl,rfl⟩
  |k+1,hk=>by
   obtain⟨h1,h2⟩:=zOY hd k zot;have hl:(l.take k).length=k:=by rw[List.length_take];omega
   have C:∀i,i<(l.take k).length->¬zJP ((l.take k).getD i zT) (l.getD k zT):=λi hi=>by
    rw[hl] at hi;rw[zSL hi];exact hd i k hi zot
   obtain⟨h3,D⟩:=yJK C;refine⟨?_,?_⟩
   · show adB (plB [] l k) (l.getD k zT)=_
     rw[h1,h3];rw[zoa,zoc (show k<l.length by omega),List.take_succ_eq_append_getElem (show k<l.length by omega)];rfl
   · show plN [] l k++[adN (plB [] l k) (l.getD k zT)]=rgI k++[(k:Int)]
     rw[h2,h1,D,hl]
theorem zLA{l:List Pt}(hd:zNN l):bsZ [l]=l:=by
 have h:=(zOY hd l.length (Nat.le_refl _)).1;rw[List.take_length] at h;exact h
theorem yI7{l:List Pt}(hd:zNN l):bxZ [l]=[rgI l.length]:=congrArg (λz=>[z]) (zOY hd l.length (Nat.le_refl _)).2
theorem zO8{P:List Pt}(ha:0<yR (arZ P 0 1)):ouZ [P]=1:=if_pos ha
theorem yBR{l:List Pt}{lo hi:Rat}(hd:zNN l)(hs:aG l 0 1)(hl:l.length<=64)(ha:0<yR (arZ l 0 1))(hlh:lo<hi):prE [l] lo hi=0:=by
 unfold prE;rw[if_neg (λe=>e (zGD hs hl ha)),if_neg (λe=>e (zO8 ha)),if_neg (λe=>by unfold xT at e;grind),if_neg];unfold prB;rw[zLA hd];have h1:eU [l] [l].length=0+l.length:=I;rw[h1];omega
section
variable {a b:Pt}
def bB(a b:Pt):List Pt:=[T3.mk a.x a.y (0:Rat),T3.mk b.x a.y (0:Rat),T3.mk b.x b.y (0:Rat),T3.mk a.x b.y (0:Rat)]
theorem zSB(h:eV a b):a.x<b.x/\a.y<b.y/\a.z<b.z:=by
 have g:∀{u v:Rat},¬0<=xT u v->u<v:=λ{u v} h=>Rat.not_le.1 λe=>h (by unfold xT;grind);exact⟨g (h 0 zow),g (h 1 zow),g (h 2 zow)⟩
theorem zB7(hx:a.x<b.x)(hy:a.y<b.y):zNN (bB a b):=by
 intro i j G D;have C:j<4:=D;have:(i=0/\(j=1\/j=2\/j=3))\/(i=1/\(j=2\/j=3))\/(i=2/\j=3):=by omega
 rcases this with⟨rfl,rfl|rfl|rfl⟩|⟨rfl,rfl|rfl⟩|⟨rfl,rfl⟩<;>(intro e;have J:=e.1;have H:=e.2;simp only[bB,List.getD_cons_zero,List.getD_cons_succ] at J H;grind)
def uI:List PI:=[(0,0),(1,0),(1,1),(0,1)]
theorem yLO:∀m,m<uI.length->pr (gp (bB a b) m) 0 1=ag a.x (b.x-a.x) a.y (b.y-a.y) (gI uI m):=by
 intro m C;have G:m<4:=C;have e0:((0:Int):Rat)=0:=I;have D:((1:Int):Rat)=1:=I;have:m=0\/m=1\/m=2\/m=3:=by omega
 rcases this with rfl|rfl|rfl|rfl<;>(unfold ag;refine Prod.ext ?_ ?_<;>simp[pr,gp,bB,gI,uI,T3.at,e0,D]<;>grind)
theorem yJD(hx:a.x<b.x)(hy:a.y<b.y):aG (bB a b) 0 1:=zFI (x:=a.x) (p:=b.x-a.x) (y:=a.y) (q:=b.y-a.y) (s:=uI) zo1 zo1 rfl yLO (by decide +kernel)
theorem yDB:arZ (bB a b) 0 1=2*((b.x-a.x)*(b.y-a.y)):=by
 unfold arZ;simp[uW,gp,bB,T3.at];grind
theorem zZY(hx:a.x<b.x)(hy:a.y<b.y):0<yR (arZ (bB a b) 0 1):=by
 rw[yDB,dB];have:=kP (p:=b.x-a.x) (q:=b.y-a.y) zo1 zo1;grind
theorem zZQ(h:eV a b):blE a b=0:=by
 obtain⟨hx,hy,hz⟩:=zSB h;rw[(yC9 h).1];exact yBR (zB7 hx hy) (yJD hx hy) (show 4<=64 by decide) (zZY hx hy) hz
def cB(a b:Pt)(x y z:Bool):Pt:=T3.mk (if x then b.x else a.x) (if y then b.y else a.y) (if z then b.z else a.z)
def pB0(a b:Pt):List Pt:=[cB a b false false false,cB a b true false false,cB a b true true false,cB a b false true false,cB a b false false true,cB a b true false true,cB a b true true true,cB a b false true true]
theorem zFL(hx:a.x<b.x)(hy:a.y<b.y):ppZ (blL a b) a.z b.z=pB0 a b:=by
 have h:bsZ (blL a b)=bB a b:=zLA (zB7 hx hy);unfold ppZ zS3;rw[h]
 show uZ _ 8=_
 have G:(bB a b).length=4:=I;have C:∀i:Nat,4<=i->(if((4:Nat):Int)<=(i:Int) then b.z else a.z)=b.z:=λi hi=>if_pos zot;have D:∀i:Nat,i<4->(if((4:Nat):Int)<=(i:Int) then b.z else a.z)=a.z:=λi hi=>if_neg zot;simp only[uZ,List.nil_append,List.cons_append,G];rw[D 0 zow,D 1 zow,D 2 zow,D 3 zow,C 4 zow,C 5 zow,C 6 zow,C 7 zow]
 rfl
theorem zN2(hx:a.x<b.x)(hy:a.y<b.y):bxZ (blL a b)=[[0,1,2,3]]:=yI7 (zB7 hx hy)
def sF(A B:Pt)(i j:Int)(nm:List Nat):Fc:=((T3.mk (B.y-A.y) (-(B.x-A.x)) (0:Rat),xH (T3.mk (B.y-A.y) (-(B.x-A.x)) (0:Rat)) A),[[i,j,j+4,i+4]],nm)
def bF0(a b:Pt):Fc:=((T3.mk (0:Rat) (0:Rat) (-((1:Int):Rat)),-a.z),[[3,2,1,0]],[98,111,116,116,111,109])
def tF0(a b:Pt):Fc:=((T3.mk (0:Rat) (0:Rat) ((1:Int):Rat),b.z),[[4,5,6,7]],[116,111,112])
noncomputable def fB0(a b:Pt):List Fc:=[sF (cB a b false false false) (cB a b true false false) 0 1 (nmS 0 0),sF (cB a b true false false) (cB a b true true false) 1 2 (nmS 0 1),sF (cB a b true true false) (cB a b false true false) 2 3 (nmS 0 2),sF (cB a b false true false) (cB a b false false false) 3 0 (nmS 0 3),bF0 a b,tF0 a b]
theorem zA5(hx:a.x<b.x)(hy:a.y<b.y){k:Nat}(hk:k<4):sdF (blL a b) a.z b.z 0 k=sF ((pB0 a b).getD k zT) ((pB0 a b).getD ((k+1)%4) zT) (k:Int) (((k+1)%4:Nat):Int) (nmS 0 k):=by
 have C:=zN2 hx hy;have H:((bsZ (blL a b)).length:Int)=4:=by rw[show bsZ (blL a b)=bB a b from zLA (zB7 hx hy)];rfl
 have G:sdA (blL a b) 0 k=(k:Int):=by
  unfold sdA;rw[C];have:k=0\/k=1\/k=2\/k=3:=by omega
  rcases this with rfl|rfl|rfl|rfl<;>rfl
 have D:sdB (blL a b) 0 k=(((k+1)%4:Nat):Int):=by
  unfold sdB;rw[C];have:k=0\/k=1\/k=2\/k=3:=by omega
  rcases this with rfl|rfl|rfl|rfl<;>rfl
 have J:sdN (blL a b) a.z b.z 0 k=T3.mk (((pB0 a b).getD ((k+1)%4) zT).y-((pB0 a b).getD k zT).y) (-(((pB0 a b).getD ((k+1)%4) zT).x-((pB0 a b).getD k zT).x)) (0:Rat):=by
  unfold sdN;rw[zFL hx hy,G,D,Int.toNat_natCast,Int.toNat_natCast]
 unfold sdF;rw[J,zFL hx hy,G,D,H,Int.toNat_natCast]
 rfl
theorem zL7(hx:a.x<b.x)(hy:a.y<b.y):prR (blL a b) a.z b.z=(pB0 a b,fB0 a b,[]):=by
 have C:=zN2 hx hy;have D:((bsZ (blL a b)).length:Int)=4:=by rw[show bsZ (blL a b)=bB a b from zLA (zB7 hx hy)];rfl
 unfold prR;rw[zFL hx hy];refine congrArg (λz=>(pB0 a b,z,([]:List En))) ?_;have J:zLV (blL a b) a.z b.z (bxZ (blL a b)).length=[sdF (blL a b) a.z b.z 0 0,sdF (blL a b) a.z b.z 0 1,sdF (blL a b) a.z b.z 0 2,sdF (blL a b) a.z b.z 0 3]:=by
  rw[C]
  show[]++sfX (blL a b) a.z b.z 0 ((bxZ (blL a b)).getD 0 []).length=_
  rw[C];rfl
 have H:btF (blL a b) a.z=bF0 a b:=by
  unfold btF bF0 zZP;rw[C];rfl
 have G:tpF (blL a b) b.z=tF0 a b:=by
  unfold tpF tF0 zU3 tpL;rw[C,D];rfl
 rw[J,H,G,zA5 hx hy zow,zA5 hx hy zow,zA5 hx hy zow,zA5 hx hy zow]
 rfl
theorem mW{n:Nat}(h:n<10):qP (((n:Int):Int):Rat)=[48+n]:=by
 unfold qP;rw[Rat.num_intCast,Rat.den_intCast,if_neg zot,if_pos aA,Int.natAbs_natCast]
 by_cases h0:n=0
 · subst h0;rfl
 · rw[yAN h0 h];rfl
theorem yG3{k:Nat}(h:k<10):nmS 0 k=[115,48,46,48+k]:=by
 unfold nmS;rw[mW (n:=0) zow,mW h];rfl
end
def zD0(p:Nat->Bool):Nat->Nat
  |0=>0
  |k+1=>if p k then zD0 p k else k+1
theorem zB5{P:Nat->Prop}{p:Nat->Bool}:∀n,(∀k,k<n->(P k↔p k=true))->aM P n=zD0 p n
  |0,_=>rfl
  |n+1,h=>by
   have ih:=zB5 n λk hk=>h k zot;have h1:=h n zot;unfold aM zD0;rw[ih]
   by_cases hp:P n
   · rw[if_pos hp,if_pos (h1.1 hp)]
   · rw[if_neg hp,if_neg (λe=>hp (h1.2 e))]
def usB(E:List E5)(i:Nat):Bool:=E.any λe=>decide (e.1=(i:Int))
theorem zUY(E:List E5)(i:Nat):zJK E E.length i↔usB E i=true:=by
 unfold usB;rw[List.any_eq_true];constructor
 · rintro⟨q,C,h⟩
   exact⟨_,gC C,decide_eq_true h⟩
 · rintro⟨e,D,h⟩
   obtain⟨q,C,rfl⟩:=List.getElem_of_mem D;refine⟨q,C,?_⟩;rw[zoa,zoc C];exact of_decide_eq_true h
def orB(E:List E5)(lt:Nat->Nat->Bool):Nat->List Int
  |0=>[]
  |i+1=>if usB E i then iP (orB E lt i) (zD0 (λk=>lt i ((orB E lt i).getD k 0).toNat) (orB E lt i).length) (i:Int) else orB E lt i
theorem zPB{s:Sd}{lt:Nat->Nat->Bool}{n:Nat}(h:∀i k,i<n->k<n->(lsP (gp s.1 i) (gp s.1 k)↔lt i k=true)):∀i,i<=n->aI s i=orB (edZ (vN s)) lt i
  |0,_=>rfl
  |i+1,hi=>by
   have ih:=zPB h i zot;unfold aI orB;have hb:aM (zTC s (aI s i) i) (aI s i).length=zD0 (λk=>lt i ((orB (edZ (vN s)) lt i).getD k 0).toNat) (orB (edZ (vN s)) lt i).length:=by
    rw[<-ih];refine zB5 _ λk C=>?_;have:=oD C;exact h i _ zot zot
   rw[hb,ih]
   by_cases hu:zJK (edZ (vN s)) (edZ (vN s)).length i
   · rw[if_pos hu,if_pos ((zUY _ _).1 hu)]
   · rw[if_neg hu,if_neg (λe=>hu ((zUY _ _).2 e))]
abbrev B3:=Bool×Bool×Bool
def lt3(u v:B3):Bool:=(!u.1&&v.1)||(u.1==v.1&&((!u.2.1&&v.2.1)||(u.2.1==v.2.1&&(!u.2.2&&v.2.2))))
def cU(a b:Pt)(u:B3):Pt:=cB a b u.1 u.2.1 u.2.2
variable {a b:Pt}
theorem zT2(hx:a.x<b.x)(hy:a.y<b.y)(hz:a.z<b.z)(u v:B3):lsP (cU a b u) (cU a b v)↔lt3 u v=true:=by
 obtain⟨D,C,u3⟩:=u;obtain⟨v1,v2,v3⟩:=v
 cases D<;>cases C<;>cases u3<;>cases v1<;>cases v2<;>cases v3<;>simp[lsP,cU,cB,lt3]<;>grind
theorem yI4(hx:a.x<b.x)(hy:a.y<b.y)(hz:a.z<b.z){u v:B3}(h:cU a b u=cU a b v):u=v:=by
 obtain⟨D,C,u3⟩:=u;obtain⟨v1,v2,v3⟩:=v;have h1:=congrArg T3.x h;have h2:=congrArg T3.y h;have h3:=congrArg T3.z h
 cases D<;>cases C<;>cases u3<;>cases v1<;>cases v2<;>cases v3<;>first|rfl|(exfalso;simp[cU,cB] at h1 h2 h3;grind)
def uB0:List B3:=[(false,false,false),(true,false,false),(true,true,false),(false,true,false),(false,false,true),(true,false,true),(true,true,true),(false,true,true)]
theorem oB:pB0 a b=uB0.map (cU a b):=rfl
theorem zBV{l:List B3}{i:Nat}(h:i<l.length):gp (l.map (cU a b)) i=cU a b (l.getD i (false,false,false)):=by
 unfold gp;rw[zoa,zoa,List.getElem?_map,zoc h];rfl
theorem zIL(hx:a.x<b.x)(hy:a.y<b.y)(hz:a.z<b.z){l:List B3}{F:List Fc}{E:List En}:fR (l.map (cU a b),F,E)=orB (edZ (vN (l.map (cU a b),F,E))) (λi k=>lt3 (l.getD i (false,false,false)) (l.getD k (false,false,false))) l.length:=by
 unfold fR;rw[show(l.map (cU a b),F,E).1.length=l.length from List.length_map _];refine zPB (n:=l.length) (λi k hi C=>?_) _ (Nat.le_refl _)
 show lsP (gp (l.map (cU a b)) i) (gp (l.map (cU a b)) k)↔_
 rw[zBV hi,zBV C];exact zT2 hx hy hz _ _
theorem iO:vN (pB0 a b,fB0 a b,[])=[[[0,1,5,4]],[[1,2,6,5]],[[2,3,7,6]],[[3,0,4,7]],[[3,2,1,0]],[[4,5,6,7]]]:=rfl
theorem zMF(hx:a.x<b.x)(hy:a.y<b.y)(hz:a.z<b.z):fR (pB0 a b,fB0 a b,[])=[0,4,3,7,1,5,2,6]:=by
 rw[oB,zIL hx hy hz,<-oB,iO]
 decide +kernel
theorem bH{α:Type}{p:Nat->Prop}{g:Nat->α}:∀{n},(∀i,i<n->¬p i)->cM p g n=[]
  |0,_=>rfl
  |n+1,h=>by
   rw[<-zA3 (h n zot)];exact bH λi hi=>h i zot
theorem zC6{α:Type}{g:Nat->List α}:∀{n},(∀i,i<n->g i=[])->tS g n=[]
  |0,_=>rfl
  |n+1,h=>by
   show tS g n++g n=[]
   rw[h n zot,zC6 λi hi=>h i zot];rfl
def tmB(E:List E5)(a b:Int):Nat->Int
  |0=>0
  |m+1=>if(E.getD m ((0:Int),(0:Int),(0:Int),(0:Int),(0:Int))).1=a/\(E.getD m ((0:Int),(0:Int),(0:Int),(0:Int),(0:Int))).2.1=b then tmB E a b m+1 else tmB E a b m
theorem zOD(E:List E5)(a b:Int):∀m,zAT E a b m=tmB E a b m
  |0=>rfl
  |m+1=>by
   unfold zAT tmB;rw[zOD E a b m]
   by_cases h:yCY (E.getD m ((0:Int),(0:Int),(0:Int),(0:Int),(0:Int))) a b
   · rw[if_pos h];exact(if_pos h).symm
   · rw[if_neg h];exact(if_neg h).symm
def clB(E:List E5):Bool:=(List.range E.length).all λi=>!decide (tmB E (E.getD i ((0:Int),(0:Int),(0:Int),(0:Int),(0:Int))).2.1 (E.getD i ((0:Int),(0:Int),(0:Int),(0:Int),(0:Int))).1 E.length<tmB E (E.getD i ((0:Int),(0:Int),(0:Int),(0:Int),(0:Int))).1 (E.getD i ((0:Int),(0:Int),(0:Int),(0:Int),(0:Int))).2.1 E.length)
theorem yD7{F:List (List (List Int))}(hv:vaP F)(h:clB (edZ F)=true):clZ F=[]:=by
 unfold clZ;rw[if_pos hv];unfold yIS;refine bH λi hi=>?_;have h1:=zob.1 h i (zog.2 hi);rw[Bool.not_eq_true',decide_eq_false_iff_not] at h1;unfold yK7 tmZ;rw[zOD,zOD];exact h1
theorem yDM{s:Sd}(hb:¬zN3 s)(hf:∀f,f<s.2.1.length->vfP (s.2.1.getD f zA).2.1/\nmP s f):szZ s=[]:=by
 unfold szZ;rw[if_neg hb];exact bH λf C e=>by
  rcases e with e|e
  · exact e (hf f C).1
  · exact e (hf f C).2
theorem yDK{s:Sd}(h:∀i k,k<i->i<s.1.length->¬gp s.1 i=gp s.1 k):zLK s s.1.length=[]:=bH λi hi e=>by
 obtain⟨k,hk,e⟩:=e;exact h i k hk hi e
theorem yDO{s:Sd}(hz:∀f,f<s.2.1.length->¬(s.2.1.getD f zA).1.1=zT)(ho:∀f,f<s.2.1.length->∀l,l<(vT s f).length->∀k,k<(gl (vT s f) l).length->sdZ (s.2.1.getD f zA).1 (gp (gl (vT s f) l) k)=0):plZ s=[]:=by
 have h1:zSI s s.2.1.length=[]:=bH λf C e=>hz f C e;have h2:zPC s s.2.1.length=[]:=zC6 λf C=>zC6 λl D=>bH λk G e=>e (ho f C l D k G);unfold plZ;rw[h1,h2];rfl
theorem yDS{s:Sd}(h:∀f,f<s.2.1.length->uA (gR s f) 0 1=0/\ouZ (gR s f)=1):neZ s=[]:=by
 have h1:zZN s s.2.1.length=[]:=bH λf C e=>e (h f C).1;have h2:yG5 s s.2.1.length=[]:=bH λf C e=>e (h f C).2;unfold neZ;rw[h1,h2];rfl
theorem zQQ{s:Sd}(h1:szZ s=[])(h2:zLK s s.1.length=[])(h3:plZ s=[])(h4:neZ s=[])(h5:clZ (vN s)=[]):gK s:=by
 unfold gK zZF;rw[h1,h2,h3,h4,h5];rfl
theorem yLF{s:Sd}{f:Nat}{i j k l:Int}(hf:f<s.2.1.length)(hn:nmP s f)(hl:(s.2.1.getD f zA).2.1=[[i,j,k,l]]):vT s f=[[gp s.1 i.toNat,gp s.1 j.toNat,gp s.1 k.toNat,gp s.1 l.toNat]]:=by
 rw[zQA hf hn,hl];unfold zG6;rw[hl];rfl
theorem zRP{s:Sd}{f:Nat}{A B C D:Pt}(h:vT s f=[[A,B,C,D]]):gR s f=[[qJ (s.2.1.getD f zA).1 A,qJ (s.2.1.getD f zA).1 B,qJ (s.2.1.getD f zA).1 C,qJ (s.2.1.getD f zA).1 D]]:=by
 unfold gR;rw[h];rfl
theorem yGJ{x p y q:Rat}(hp:0<p)(hq:0<q){l:List Pt}{t:List PI}(ht:t=[(0,0),(1,0),(1,1),(0,1)]\/t=[(1,0),(1,1),(0,1),(0,0)]\/t=[(1,1),(0,1),(0,0),(1,0)]\/t=[(0,1),(0,0),(1,0),(1,1)])
    (hl:l=t.map λu=>T3.mk (x+p*(u.1:Rat)) (y+q*(u.2:Rat)) (0:Rat)):uA [l] 0 1=0/\ouZ [l]=1:=by
 have U:t.length=4:=by rcases ht with rfl|rfl|rfl|rfl<;>rfl
 have D:l.length=t.length:=by rw[hl,List.length_map]
 have J:∀m,m<t.length->pr (gp l m) 0 1=ag x p y q (gI t m):=λm H=>by
  rw[hl];unfold gp gI;rw[zoa,zoa,List.getElem?_map,zoc H]
  rfl
 have G:aG l 0 1:=zFI hp hq D J (by rcases ht with rfl|rfl|rfl|rfl<;>decide +kernel);have e0:((0:Int):Rat)=0:=I;have O:((1:Int):Rat)=1:=I;have M:arZ l 0 1=2*(p*q):=by
  unfold arZ
  rcases ht with rfl|rfl|rfl|rfl<;>(subst hl;simp[uW,gp,T3.at,e0,O];grind)
 have C:0<yR (arZ l 0 1):=by
  rw[M,dB];have:=kP hp hq;grind
 exact⟨zGD G zot C,zO8 C⟩
section
variable {x p y q:Rat}
def lay(x p y q:Rat)(s:List PI)(l:List Pt):Prop:=l.length=s.length/\∀m,m<s.length->pr (gp l m) 0 1=ag x p y q (gI s m)
def arG(s:List PI):Nat->Int
  |0=>0
  |m+1=>arG s m+((gI s m).1*(gI s ((m+1)%s.length)).2-(gI s ((m+1)%s.length)).1*(gI s m).2)
theorem zNB{s:List PI}{l:List Pt}(h:lay x p y q s l):∀m,m<=s.length->
 uW l 0 1 m=p*q*((arG s m:Int):Rat)+x*q*(((gI s (m%s.length)).2:Rat)-((gI s 0).2:Rat))-y*p*(((gI s (m%s.length)).1:Rat)-((gI s 0).1:Rat))
 |0,_=>by
  rw[Nat.zero_mod]
  show(0:Rat)=p*q*((0:Int):Rat)+_-_
  have:((0:Int):Rat)=0:=rfl;rw[this];grind
 |m+1,hm=>by
  have ih:=zNB h m zot;have e1:=h.2 m zot;have e2:=h.2 ((m+1)%s.length) (Nat.mod_lt _ zot);have hmod:m%s.length=m:=zoh zot;rw[hmod] at ih;have a1:(gp l m).at 0=x+p*((gI s m).1:Rat):=congrArg Prod.fst e1;have a2:(gp l m).at 1=y+q*((gI s m).2:Rat):=congrArg Prod.snd e1;have b1:(gp l ((m+1)%s.length)).at 0=x+p*((gI s ((m+1)%s.length)).1:Rat):=congrArg Prod.fst e2;have b2:(gp l ((m+1)%s.length)).at 1=y+q*((gI s ((m+1)%s.length)).2:Rat):=congrArg Prod.snd e2
  show uW l 0 1 m+((gp l m).at 0*(gp l ((m+1)%l.length)).at 1-(gp l ((m+1)%l.length)).at 0*(gp l m).at 1)=_
  rw[h.1,ih,a1,a2,b1,b2]
  show _=p*q*((arG s m+((gI s m).1*(gI s ((m+1)%s.length)).2-(gI s ((m+1)%s.length)).1*(gI s m).2):Int):Rat)+_-_
  simp only[Rat.intCast_add,Rat.intCast_sub,Rat.intCast_mul];grind
theorem zX7{s:List PI}{l:List Pt}(h:lay x p y q s l):arZ l 0 1=p*q*((arG s s.length:Int):Rat):=by
 unfold arZ;rw[h.1,zNB h _ (Nat.le_refl _),Nat.mod_self];grind
theorem zEQ(hp:0<p)(hq:0<q){s:List PI}{l:List Pt}(h:lay x p y q s l):yR (arZ l 0 1)=sgI (arG s s.length):=by
 rw[zX7 h,iA (kP hp hq),mA];rfl
theorem zKS(hp:0<p)(hq:0<q){s:List PI}{l:List Pt}(h:lay x p y q s l)(hb:zSP s=true):aG l 0 1:=zFI hp hq h.1 h.2 hb
theorem bW{s:List PI}{l:List Pt}(h:lay x p y q s l){m:Nat}(hm:m<s.length):vV l 0 1 m=ag x p y q (gI s m)/\vS l 0 1 m=ag x p y q (gI s ((m+1)%s.length)):=by
 unfold vV vS;rw[h.1];exact⟨h.2 m hm,h.2 _ (Nat.mod_lt _ zot)⟩
def btI(a b c:Int):Bool:=decide ((a<=c/\c<=b)\/(b<=c/\c<=a))
def yBV(u v w:PI):Bool:=btI u.1 v.1 w.1&&btI u.2 v.2 w.2&&decide (crI u v w=0)
def csI(u v w:PI):Bool:=decide (¬(u.2<=w.2↔v.2<=w.2)/\((u.2<=w.2/\0<crI u v w)\/(v.2<=w.2/\crI u v w<0)))
def odI(s:List PI)(w:PI):Nat->Bool
  |0=>false
  |m+1=>csI (gI s m) (gI s ((m+1)%s.length)) w != odI s w m
def inI(s:List PI)(w:PI):Int:=if(List.range s.length).any λm=>yBV (gI s m) (gI s ((m+1)%s.length)) w then 0 else if odI s w s.length then 1 else -1
theorem zZ6{a b:Int}(hp:0<p):x+p*(a:Rat)<=x+p*(b:Rat)↔a<=b:=by
 rw[<-Rat.not_lt,zJH hp,Int.not_lt]
theorem yEF(hp:0<p)(hq:0<q)(u v w:PI):onS (ag x p y q u) (ag x p y q v) (ag x p y q w)↔yBV u v w=true:=by
 have C:cr (ag x p y q u) (ag x p y q v) (ag x p y q w)=0↔crI u v w=0:=by
  rw[yEI];have h0:¬p*q=0:=λe=>absurd (e▸kP hp hq) zow;constructor
  · intro e
    rcases zoe.1 e with e|e
    · exact absurd e h0
    · exact Rat.intCast_inj.1 e
  · intro e
    rw[e];exact Rat.mul_zero _
 unfold onS yBV jF btI;rw[C,Bool.and_eq_true,Bool.and_eq_true,decide_eq_true_iff,decide_eq_true_iff,decide_eq_true_iff];unfold ag;simp only[zZ6 hp,zZ6 hq];constructor
 · rintro⟨a,b,c⟩;exact⟨⟨by omega,by omega⟩,c⟩
 · rintro⟨⟨a,b⟩,c⟩;exact⟨by omega,by omega,c⟩
theorem dE{n:Int}:0<sgI n↔0<n:=by unfold sgI;split<;>(try split)<;>omega
theorem zQT{n:Int}:sgI n<0↔n<0:=by unfold sgI;split<;>(try split)<;>omega
theorem yLP(hp:0<p)(hq:0<q)(u v w:PI):jP (ag x p y q u) (ag x p y q v) (ag x p y q w)↔csI u v w=true:=by
 unfold jP csI;rw[decide_eq_true_iff,zZ5 hp hq];unfold orI;rw[dE,zQT];unfold ag;simp only[zZ6 hq]
theorem zKT(hp:0<p)(hq:0<q){s:List PI}{l:List Pt}(h:lay x p y q s l)(w:PI):∀m,m<=s.length->(kC l (ag x p y q w) 0 1 m↔odI s w m=true)
  |0,_=>by simp[kC,odI]
  |m+1,hm=>by
   have ih:=zKT hp hq h w m zot;obtain⟨e1,e2⟩:=bW h (m:=m) zot;unfold kC odI;rw[e1,e2,yLP hp hq,ih]
   cases csI (gI s m) (gI s ((m+1)%s.length)) w<;>cases odI s w m<;>simp
theorem yHI(hp:0<p)(hq:0<q){s:List PI}{l:List Pt}(h:lay x p y q s l)(w:PI):fG l (ag x p y q w) 0 1=inI s w:=by
 unfold fG inI;have h1:(∃m,m<l.length/\onS (vV l 0 1 m) (vS l 0 1 m) (ag x p y q w))↔((List.range s.length).any λm=>yBV (gI s m) (gI s ((m+1)%s.length)) w)=true:=by
  rw[List.any_eq_true,h.1];constructor
  · rintro⟨m,D,e⟩
    obtain⟨G,C⟩:=bW h D;rw[G,C,yEF hp hq] at e;exact⟨m,zog.2 D,e⟩
  · rintro⟨m,D,e⟩
    have D:=zog.1 D;obtain⟨G,C⟩:=bW h D;refine⟨m,D,?_⟩;rw[G,C,yEF hp hq];exact e
 by_cases e:∃m,m<l.length/\onS (vV l 0 1 m) (vS l 0 1 m) (ag x p y q w)
 · rw[if_pos e,if_pos (h1.1 e)]
 · rw[if_neg e,if_neg λH=>e (h1.2 H),h.1]
   by_cases C:kC l (ag x p y q w) 0 1 s.length
   · rw[if_pos C,if_pos ((zKT hp hq h w _ (Nat.le_refl _)).1 C)]
   · rw[if_neg C,if_neg λH=>C ((zKT hp hq h w _ (Nat.le_refl _)).2 H)]
def dbI(s:List PI):List PI:=s.map λu=>(2*u.1,2*u.2)
def miI(u v:PI):PI:=(u.1+v.1,u.2+v.2)
theorem yIJ(s:List PI){m:Nat}(hm:m<s.length):gI (dbI s) m=(2*(gI s m).1,2*(gI s m).2):=by
 unfold gI dbI;rw[zoa,zoa,List.getElem?_map,zoc hm];rfl
theorem yHJ{s:List PI}{l:List Pt}(h:lay x p y q s l):lay x (p/2) y (q/2) (dbI s) l:=by
 have D:(dbI s).length=s.length:=List.length_map _;refine⟨by rw[D];exact h.1,λm C=>?_⟩;rw[D] at C;rw[h.2 m C,yIJ s C];unfold ag;have e:∀a:Int,(((2*a:Int)):Rat)=2*(a:Rat):=λa=>by rw[Rat.intCast_mul];rfl
 show(x+p*_,y+q*_)=(x+p/2*(((2*_:Int)):Rat),y+q/2*(((2*_:Int)):Rat))
 rw[e,e];refine Prod.ext ?_ ?_
 · show x+p*_=x+p/2*(2*_);grind
 · show y+q*_=y+q/2*(2*_);grind
theorem yJH(u v:PI):zPV (ag x p y q u) (ag x p y q v)=ag x (p/2) y (q/2) (miI u v):=by
 have C:zGU=1/2:=zI1.symm.trans I;unfold zPV ag miI zCW;rw[C];simp only[Rat.intCast_add];refine Prod.ext ?_ ?_
 · show(x+p*_+(x+p*_))*(1/2)=x+p/2*(_+_);grind
 · show(y+q*_+(y+q*_))*(1/2)=y+q/2*(_+_);grind
def wiB(c s:List PI):Bool:=(List.range s.length).all λm=>decide (inI (dbI c) (miI (gI s m) (gI s ((m+1)%s.length)))=1)
theorem zLF{c l:List Pt}(h:∀m,m<l.length->fG c (zPV (vV l 0 1 m) (vS l 0 1 m)) 0 1=1):∀m,m<=l.length->pS c l 0 1 m=m
  |0,_=>rfl
  |m+1,hm=>by
   unfold pS;rw[if_pos (h m zot),zLF h m zot];omega
theorem zX6(hp:0<p)(hq:0<q){s t:List PI}{c l:List Pt}(hc:lay x p y q s c)(hl:lay x p y q t l)(h:wiB s t=true):wiZ c l 0 1=l.length:=by
 refine zLF (λm C=>?_) _ (Nat.le_refl _);rw[hl.1] at C;obtain⟨G,D⟩:=bW hl C;rw[G,D,yJH,yHI (p:=p/2) (q:=q/2) zo1 zo1 (yHJ hc)];have:=zob.1 h m (zog.2 C);exact of_decide_eq_true this
theorem zIH{P:List Pt}(h:0<yR (arZ P 0 1)):cQ P:=zC7 λe=>by
 have e':arZ P 0 1=0:=e;rw[e',show yR 0=0 from if_pos rfl] at h;omega
def noX(s t:List PI):Bool:=(List.range s.length).all λa=>(List.range t.length).all λb=>!decide (1<toI (gI s a) (gI s ((a+1)%s.length)) (gI t b) (gI t ((b+1)%t.length)))
theorem yCE(hp:0<p)(hq:0<q){s t:List PI}{c l:List Pt}(hc:lay x p y q s c)(hl:lay x p y q t l)(h:noX s t=true):¬gS c l 0 1:=by
 rintro⟨a,b,D,C,e⟩
 rw[hc.1] at D;rw[hl.1] at C;unfold j0 at e;rw[(bW hc D).1,(bW hc D).2,(bW hl C).1,(bW hl C).2,zN4 hp hq] at e;have h1:=zob.1 (zob.1 h a (zog.2 D)) b (zog.2 C);rw[Bool.not_eq_true',decide_eq_false_iff_not] at h1;exact h1 e
theorem zXK{P Q:List Pt}(hs:aG P 0 1)(ht:aG Q 0 1)(hl:P.length<=64/\Q.length<=64)(hx:¬gS P Q 0 1)(ha:0<yR (arZ P 0 1))(hw:wiZ P Q 0 1=Q.length):uA [P,Q] 0 1=0:=by
 have C:∀m,m<[P,Q].length->m=0\/m=1:=λm D=>by have:m<2:=D;omega
 have H:yLM [P,Q] 0 1 1 0 (-1):=⟨⟨ha,hw⟩,.inl zow⟩;have U:pZ [P,Q] 0 1 0= -1:=if_pos ha;have O:0<=tW [P,Q] 0 1 1 2:=by
  have M:tW [P,Q] 0 1 1 1=0:=if_pos H;unfold tW;rw[M]
  split<;>decide
 unfold uA;rw[if_neg (λe=>by
  rcases e with e|⟨m,D,e⟩
  · have:16<2:=e
    omega
  · rcases C m D with rfl|rfl
    · have:64<P.length:=e
      omega
    · have:64<Q.length:=e
      omega),if_neg (λe=>by
  obtain⟨m,D,e⟩:=e
  rcases C m D with rfl|rfl
  · exact e hs
  · exact e ht),if_neg (λe=>by
  obtain⟨a,b,J,H,e⟩:=e;have:b<2:=H;have:a=0/\b=1:=by omega
  obtain⟨rfl,rfl⟩:=this;exact hx e),if_neg (λe=>by
  rcases e with⟨k,hk,e⟩|⟨a,b,hka,hkb,e⟩
  · rcases C k hk with rfl|rfl
    · exact e.1 ha
    · have:=e.2
      have e2:tW [P,Q] 0 1 1 [P,Q].length=tW [P,Q] 0 1 1 2:=I;omega
  · obtain⟨⟨⟨G,h0⟩,Z⟩,_⟩:=e
    rcases C a hka with rfl|rfl
    · omega
    · rcases C b hkb with rfl|rfl
      · omega
      · exact G I)]
def nsI(S:List (List PI)):Bool:=
 match S with
 |[s]=>zSP s&&decide (s.length<=64)&&decide (0<arG s s.length)
 |[s,t]=>zSP s&&zSP t&&decide (s.length<=64/\t.length<=64)&&noX s t&&decide (0<arG s s.length)&&decide (arG t t.length<0)&&wiB s t
 |_=>false
def yHK(x p y q:Rat)(S:List (List PI))(L:List (List Pt)):Prop:=L.length=S.length/\∀m,m<S.length->lay x p y q (S.getD m []) (gl L m)
theorem zMX(hp:0<p)(hq:0<q){S:List (List PI)}{L:List (List Pt)}(h:yHK x p y q S L)(hb:nsI S=true):uA L 0 1=0/\ouZ L=1/\∀l,l∈L->cQ l:=by
 match S,hb with
 |[s],hb=>
  match L,h.1 with
  |[l],_=>
   have h0:lay x p y q s l:=h.2 0 (show 0<_ from Nat.zero_lt_succ _);simp only[nsI,Bool.and_eq_true,decide_eq_true_iff] at hb;have C:0<yR (arZ l 0 1):=by rw[zEQ hp hq h0];exact dE.2 hb.2
   refine⟨zGD (zKS hp hq h0 hb.1.1) (by rw[h0.1];exact hb.1.2) C,zO8 C,λz hz=>?_⟩;rw[List.mem_singleton.1 hz];exact zIH C
 |[s,t],hb=>
  match L,h.1 with
  |[l,k],_=>
   have h0:lay x p y q s l:=h.2 0 (show 0<_ from Nat.zero_lt_succ _);have h1:lay x p y q t k:=h.2 1 (show 1<2 from by decide);simp only[nsI,Bool.and_eq_true,decide_eq_true_iff] at hb;obtain⟨⟨⟨⟨⟨⟨b1,Z⟩,U⟩,O⟩,M⟩,J⟩,H⟩:=hb;have C:0<yR (arZ l 0 1):=by rw[zEQ hp hq h0];exact dE.2 M
   have D:yR (arZ k 0 1)<0:=by rw[zEQ hp hq h1];exact zQT.2 J
   refine⟨zXK (zKS hp hq h0 b1) (zKS hp hq h1 Z) (by rw[h0.1,h1.1];exact U) (yCE hp hq h0 h1 O) C (zX6 hp hq h0 h1 H),?_,λz hz=>?_⟩
   · have G:s5 [l,k] 1=1:=if_pos C
     show s5 [l,k] 2=1
     unfold s5;rw[if_neg (show ¬0<yR (arZ (gl [l,k] 1) 0 1) fromλe=>by have:0<yR (arZ k 0 1):=e;omega),G]
   · rcases List.mem_cons.1 hz with rfl|hz
     · exact zIH C
     · rw[List.mem_singleton.1 hz]
       refine zC7 λe=>?_;have:arZ k 0 1=0:=e;rw[this,show yR 0=0 from if_pos I] at D;omega
end
abbrev Dir:=Nat×Bool
def dI:Dir->Nat
  |(2,true)=>0|(2,false)=>1|(1,true)=>2|(1,false)=>0|(_,true)=>1|(_,false)=>2
def dJ:Dir->Nat
  |(2,true)=>1|(2,false)=>0|(1,true)=>0|(1,false)=>2|(_,true)=>2|(_,false)=>1
def dN(d:Dir)(c:Rat):Pt:=(zT).set d.1 (if d.2 then c else -c)
def zUO(u:B3):Nat->Bool
  |0=>u.1|1=>u.2.1|_=>u.2.2
def bI(x:Bool):Int:=if x then 1 else 0
def pI2(d:Dir)(u:B3):PI:=(bI (zUO u (dI d)),bI (zUO u (dJ d)))
variable {a b:Pt}
theorem yD9(u:B3)(i:Nat):(cU a b u).at i=if zUO u i then b.at i else a.at i:=by
 obtain⟨D,C,u3⟩:=u
 match i with
 |0=>rfl
 |1=>rfl
 |n+2=>rfl
theorem zZG(u:B3)(i:Nat):(cU a b u).at i=a.at i+(b.at i-a.at i)*((bI (zUO u i):Int):Rat):=by
 rw[yD9];have e0:((0:Int):Rat)=0:=I;have C:((1:Int):Rat)=1:=I;unfold bI
 split
 · rw[C];grind
 · rw[e0];grind
theorem zLC{d:Dir}{c:Rat}(hd:d.1<3)(hc:0<c):axI (dN d c)=dI d/\axJ (dN d c)=dJ d/\¬dN d c=zT:=by
 obtain⟨C,D⟩:=d;have h3:C=0\/C=1\/C=2:=by have:C<3:=hd;omega
 have H:¬dN (C,D) c=zT:=λe=>by
  have h1:=congrArg T3.x e;have h2:=congrArg T3.y e;have G:=congrArg T3.z e
  rcases h3 with rfl|rfl|rfl<;>cases D<;>simp[dN,T3.set] at h1 h2 G<;>grind
 refine⟨?_,?_,H⟩
 · rcases h3 with rfl|rfl|rfl<;>cases D<;>simp[dN,T3.set,axI,dI]<;>grind
 · rcases h3 with rfl|rfl|rfl<;>cases D<;>simp[dN,T3.set,axJ,dJ]<;>grind
def zE1(d:Dir)(us:List B3):Bool:=(us.all λu=>zUO u d.1==d.2)&&(decide (us.map (pI2 d)=[(0,0),(1,0),(1,1),(0,1)])||decide (us.map (pI2 d)=[(1,0),(1,1),(0,1),(0,0)])||decide (us.map (pI2 d)=[(1,1),(0,1),(0,0),(1,0)])||decide (us.map (pI2 d)=[(0,1),(0,0),(1,0),(1,1)]))
theorem zRS{d:Dir}{c o:Rat}(hd:d.1<3)(hc:0<c)(u:B3):qJ (dN d c,o) (cU a b u)=T3.mk (a.at (dI d)+(b.at (dI d)-a.at (dI d))*(((pI2 d u).1:Int):Rat)) (a.at (dJ d)+(b.at (dJ d)-a.at (dJ d))*(((pI2 d u).2:Int):Rat)) (0:Rat):=by
 unfold qJ;rw[(zLC hd hc).1,(zLC hd hc).2.1,zZG,zZG];rfl
theorem zI7{d:Dir}{c o:Rat}(hd:d.1<3)(hc:0<c)(h:∀i,a.at i<b.at i){us:List B3}(ht:zE1 d us=true):uA [us.map λu=>qJ (dN d c,o) (cU a b u)] 0 1=0/\ouZ [us.map λu=>qJ (dN d c,o) (cU a b u)]=1:=by
 unfold zE1 at ht;simp only[Bool.and_eq_true,Bool.or_eq_true,decide_eq_true_iff] at ht;refine yGJ (x:=a.at (dI d)) (p:=b.at (dI d)-a.at (dI d)) (y:=a.at (dJ d)) (q:=b.at (dJ d)-a.at (dJ d)) (t:=us.map (pI2 d)) (by have:=h (dI d);grind) (by have:=h (dJ d);grind) ?_ ?_
 · rcases ht.2 with((h1|h1)|h1)|h1
   · exact .inl h1
   · exact .inr (.inl h1)
   · exact .inr (.inr (.inl h1))
   · exact .inr (.inr (.inr h1))
 · rw[List.map_map]
   exact List.map_congr_left λu _=>zRS hd hc u
theorem zUC{d:Dir}{c:Rat}(hd:d.1<3){u:B3}(hu:zUO u d.1=d.2):sdZ (dN d c,(if d.2 then c else -c)*(if d.2 then b.at d.1 else a.at d.1)) (cU a b u)=0:=by
 unfold sdZ hgt;have e:=yD9 (a:=a) (b:=b) u d.1;rw[hu] at e;obtain⟨C,D⟩:=d;have h3:C=0\/C=1\/C=2:=by have:C<3:=hd;omega
 have h0:xH (dN (C,D) c) (cU a b u)=(if D then c else -c)*(cU a b u).at C:=by
  rcases h3 with rfl|rfl|rfl<;>(simp only[xH,dN,T3.set,T3.at];grind)
 rw[h0,e];refine if_pos ?_
 show _*_-_*_=(0:Rat)
 grind
abbrev u0:B3:=(false,false,false)
def mR(a b:Pt)(us:List B3)(d:Dir)(f:Fc):Prop:=
 d.1<3/\∃c,0<c/\f.1=(dN d c,(if d.2 then c else -c)*(if d.2 then b.at d.1 else a.at d.1))/\∃i j k l:Nat,f.2.1=[[(i:Int),(j:Int),(k:Int),(l:Int)]]/\(i<us.length/\j<us.length/\k<us.length/\l<us.length)/\zE1 d [us.getD i u0,us.getD j u0,us.getD k u0,us.getD l u0]=true
section
variable {us:List B3}{F:List Fc}
theorem zZL{d:Dir}{f:Nat}(h:mR a b us d (F.getD f zA)):nmP (us.map (cU a b),F,[]) f:=by
 obtain⟨_,c,_,_,i,j,k,l,O,⟨h1,h2,h3,U⟩,_⟩:=h;intro m M q J
 show 0<=_/\_<(((us.map (cU a b)).length:Nat):Int)
 rw[List.length_map];have D:m<((F.getD f zA).2.1).length:=M;have C:q<(((F.getD f zA).2.1).getD m []).length:=J
 show 0<=(((F.getD f zA).2.1).getD m []).getD q 0/\(((F.getD f zA).2.1).getD m []).getD q 0<_
 rw[O] at D C ⊢;have G:m=0:=by have:m<1:=D;omega
 subst G;have H:q<4:=C;have:q=0\/q=1\/q=2\/q=3:=by omega
 rcases this with rfl|rfl|rfl|rfl
 · show 0<=(i:Int)/\(i:Int)<_;omega
 · show 0<=(j:Int)/\(j:Int)<_;omega
 · show 0<=(k:Int)/\(k:Int)<_;omega
 · show 0<=(l:Int)/\(l:Int)<_;omega
theorem zB6{d:Dir}{f:Nat}(hf:f<F.length)(h:mR a b us d (F.getD f zA)):∃vs:List B3,zE1 d vs=true/\vs.length=4/\vT (us.map (cU a b),F,[]) f=[vs.map (cU a b)]:=by
 have D:=zZL h;obtain⟨_,c,_,_,i,j,k,l,G,⟨h1,h2,h3,H⟩,C⟩:=h;refine⟨[us.getD i u0,us.getD j u0,us.getD k u0,us.getD l u0],C,I,?_⟩;rw[yLF (s:=(us.map (cU a b),F,[])) hf D G]
 show[[gp (us.map (cU a b)) _,gp (us.map (cU a b)) _,gp (us.map (cU a b)) _,gp (us.map (cU a b)) _]]=_
 rw[Int.toNat_natCast,Int.toNat_natCast,Int.toNat_natCast,Int.toNat_natCast,zBV h1,zBV h2,zBV h3,zBV H];rfl
theorem zLB(h:a.x<b.x/\a.y<b.y/\a.z<b.z)(hn:∀i k,k<i->i<us.length->¬us.getD i u0=us.getD k u0)(hu:us.length<=512/\F.length<=256)(hF:∀f,f<F.length->∃d,mR a b us d (F.getD f zA))(hv:∀f,f<F.length->vfP (F.getD f zA).2.1)
    (hva:vaP (vN (us.map (cU a b),F,[])))(hc:clB (edZ (vN (us.map (cU a b),F,[])))=true):gK (us.map (cU a b),F,[]):=by
 have ae:∀i,a.at i<b.at i:=λi=>match i with
  |0=>h.1|1=>h.2.1|_+2=>h.2.2
 have ab:(us.map (cU a b)).length=us.length:=List.length_map _;refine zQQ (yDM (λe=>?_) λf D=>?_) (yDK λi k ad hi e=>?_) (yDO (λf D=>?_) λf D l hl k hk=>?_) (yDS λf D=>?_) (yD7 hva hc)
 · rcases e with(e|e)|e
   · have U:512<(us.map (cU a b)).length:=e
     omega
   · have U:256<F.length:=e
     omega
   · have U:1024<([]:List En).length:=e
     simp at U
 · obtain⟨d,M⟩:=hF f D
   exact⟨hv f D,zZL M⟩
 · have aa:i<us.length:=by rw[<-ab];exact hi
   have U:gp (us.map (cU a b)) i=gp (us.map (cU a b)) k:=e;rw[zBV aa,zBV zot] at U;exact hn i k ad aa (yI4 h.1 h.2.1 h.2.2 U)
 · obtain⟨d,C,c,G,hp,_⟩:=hF f D
   show ¬(F.getD f zA).1.1=zT
   rw[hp];exact(zLC C G).2.2
 · obtain⟨d,M⟩:=hF f D
   obtain⟨H,Z,h4,O⟩:=zB6 D M;obtain⟨C,c,G,hp,_⟩:=M;rw[O] at hl hk ⊢;have ac:l=0:=by have:l<1:=hl;omega
   subst ac;have J:k<(H.map (cU a b)).length:=hk;rw[List.length_map] at J
   show sdZ (F.getD f zA).1 (gp (H.map (cU a b)) k)=0
   rw[hp,zBV J];refine zUC C ?_;unfold zE1 at Z;simp only[Bool.and_eq_true] at Z;have h9:=zob.1 Z.1 (H.getD k u0) (gC J);exact eq_of_beq h9
 · obtain⟨d,M⟩:=hF f D
   obtain⟨H,Z,h4,O⟩:=zB6 D M;obtain⟨C,c,G,hp,_⟩:=M;have e:gR (us.map (cU a b),F,[]) f=[H.map λu=>qJ (F.getD f zA).1 (cU a b u)]:=by
    obtain⟨v1,v2,v3,v4,rfl⟩:∃v1 v2 v3 v4,H=[v1,v2,v3,v4]:=by
     match H,h4 with
     |[v1,v2,v3,v4],_=>exact⟨_,_,_,_,rfl⟩
    exact zRP O
   rw[e,hp];exact zI7 C G ae Z
end
instance decLp(x:List Int):Decidable (lpP x):=by unfold lpP;exact inferInstance
instance decVf(L:List (List Int)):Decidable (vfP L):=by unfold vfP;exact inferInstance
instance decVa(F:List (List (List Int))):Decidable (vaP F):=by unfold vaP;exact inferInstance
variable {a b:Pt}
theorem zII{N M:Pt}{o r:Rat}(h1:N=M)(h2:o=r):(N,o)=(M,r):=by rw[h1,h2]
theorem zRV(h:a.x<b.x/\a.y<b.y/\a.z<b.z):mR a b uB0 (1,false) ((fB0 a b).getD 0 zA)/\mR a b uB0 (0,true) ((fB0 a b).getD 1 zA)/\mR a b uB0 (1,true) ((fB0 a b).getD 2 zA)/\mR a b uB0 (0,false) ((fB0 a b).getD 3 zA)/\mR a b uB0 (2,false) ((fB0 a b).getD 4 zA)/\mR a b uB0 (2,true) ((fB0 a b).getD 5 zA):=by
 obtain⟨hx,hy,hz⟩:=h;refine⟨?_,?_,?_,?_,?_,?_⟩
 · refine⟨by decide,b.x-a.x,by grind,zII ?_ ?_,0,1,5,4,I,by decide,by decide⟩
   · show T3.mk (a.y-a.y) (-(b.x-a.x)) (0:Rat)=T3.mk 0 (-(b.x-a.x)) 0
     rw[tU];refine⟨?_,I,I⟩;show a.y-a.y=0;grind
   · show xH (T3.mk (a.y-a.y) (-(b.x-a.x)) (0:Rat)) (T3.mk a.x a.y a.z)= -(b.x-a.x)*a.y
     unfold xH;simp only;grind
 · refine⟨by decide,b.y-a.y,by grind,zII ?_ ?_,1,2,6,5,I,by decide,by decide⟩
   · show T3.mk (b.y-a.y) (-(b.x-b.x)) (0:Rat)=T3.mk (b.y-a.y) 0 0
     rw[tU];refine⟨I,?_,I⟩;show -(b.x-b.x)=0;grind
   · show xH (T3.mk (b.y-a.y) (-(b.x-b.x)) (0:Rat)) (T3.mk b.x a.y a.z)=(b.y-a.y)*b.x
     unfold xH;simp only;grind
 · refine⟨by decide,b.x-a.x,by grind,zII ?_ ?_,2,3,7,6,I,by decide,by decide⟩
   · show T3.mk (b.y-b.y) (-(a.x-b.x)) (0:Rat)=T3.mk 0 (b.x-a.x) 0
     rw[tU];refine⟨?_,?_,I⟩
     · show b.y-b.y=0;grind
     · show -(a.x-b.x)=b.x-a.x;grind
   · show xH (T3.mk (b.y-b.y) (-(a.x-b.x)) (0:Rat)) (T3.mk b.x b.y a.z)=(b.x-a.x)*b.y
     unfold xH;simp only;grind
 · refine⟨by decide,b.y-a.y,by grind,zII ?_ ?_,3,0,4,7,I,by decide,by decide⟩
   · show T3.mk (a.y-b.y) (-(a.x-a.x)) (0:Rat)=T3.mk (-(b.y-a.y)) 0 0
     rw[tU];refine⟨?_,?_,I⟩
     · show a.y-b.y= -(b.y-a.y);grind
     · show -(a.x-a.x)=0;grind
   · show xH (T3.mk (a.y-b.y) (-(a.x-a.x)) (0:Rat)) (T3.mk a.x b.y a.z)= -(b.y-a.y)*a.x
     unfold xH;simp only;grind
 · refine⟨by decide,1,by decide,zII I ?_,3,2,1,0,I,by decide,by decide⟩
   show -a.z= -1*a.z
   grind
 · refine⟨by decide,1,by decide,zII I ?_,4,5,6,7,I,by decide,by decide⟩
   show b.z=1*b.z
   grind
theorem zRW(h:a.x<b.x/\a.y<b.y/\a.z<b.z):∀f,f<(fB0 a b).length->∃d,mR a b uB0 d ((fB0 a b).getD f zA):=by
 intro f D;have C:f<6:=D;obtain⟨h0,h1,h2,h3,H,G⟩:=zRV h;have:f=0\/f=1\/f=2\/f=3\/f=4\/f=5:=by omega
 rcases this with rfl|rfl|rfl|rfl|rfl|rfl
 · exact⟨_,h0⟩
 · exact⟨_,h1⟩
 · exact⟨_,h2⟩
 · exact⟨_,h3⟩
 · exact⟨_,H⟩
 · exact⟨_,G⟩
theorem zID(h:a.x<b.x/\a.y<b.y/\a.z<b.z):gK (pB0 a b,fB0 a b,[]):=by
 have g:∀i,i<uB0.length->∀k,k<i->¬uB0.getD i u0=uB0.getD k u0:=by decide +kernel
 rw[oB];refine zLB h (λi k C hi=>g i hi k C) ⟨by decide,show 6<=256 by decide⟩ (zRW h) (λf G=>?_) ?_ ?_
 · have D:f<6:=G
   have:f=0\/f=1\/f=2\/f=3\/f=4\/f=5:=by omega
   rcases this with rfl|rfl|rfl|rfl|rfl|rfl
   · show vfP [[0,1,5,4]];decide +kernel
   · show vfP [[1,2,6,5]];decide +kernel
   · show vfP [[2,3,7,6]];decide +kernel
   · show vfP [[3,0,4,7]];decide +kernel
   · show vfP [[3,2,1,0]];decide +kernel
   · show vfP [[4,5,6,7]];decide +kernel
 · rw[<-oB,iO];decide +kernel
 · rw[<-oB,iO];decide +kernel
variable {a b:Pt}
def ixB(o:List Int)(n:Nat):Nat->List Int
  |0=>List.replicate n (0:Int)
  |i+1=>(ixB o n i).set (o.getD i 0).toNat (i:Int)
theorem zP3{s:Sd}{o:List Int}(h:fR s=o):∀i,zHU s i=ixB o s.1.length i
  |0=>rfl
  |i+1=>by unfold zHU ixB;rw[zP3 h i,h]
theorem zX9(h:a.x<b.x/\a.y<b.y/\a.z<b.z):ixZ (pB0 a b,fB0 a b,[])=[0,4,6,2,1,5,7,3]:=by
 have C:=zMF h.1 h.2.1 h.2.2;unfold ixZ;rw[zP3 C,C]
 show ixB _ 8 8=_
 decide
def uB1:List B3:=[(false,false,false),(false,false,true),(false,true,false),(false,true,true),(true,false,false),(true,false,true),(true,true,false),(true,true,true)]
theorem zXE(h:a.x<b.x/\a.y<b.y/\a.z<b.z):nrP (pB0 a b,fB0 a b,[])=uB1.map (cU a b):=by
 have C:=zMF h.1 h.2.1 h.2.2;unfold nrP;rw[if_pos (zID h)];unfold zXF;rw[C];rfl
theorem zQZ(h:a.x<b.x/\a.y<b.y/\a.z<b.z){us:List B3}{F:List Fc}{f:Nat}(hf:f<F.length){d:Dir}(hd:mR a b us d (F.getD f zA)):zD5 (us.map (cU a b),F,[]) f 0:=by
 have H:∀i,a.at i<b.at i:=λi=>match i with
  |0=>h.1|1=>h.2.1|_+2=>h.2.2
 obtain⟨J,O,h4,D⟩:=zB6 hf hd;obtain⟨C,c,G,U,_⟩:=hd;obtain⟨v1,v2,v3,v4,rfl⟩:∃v1 v2 v3 v4,J=[v1,v2,v3,v4]:=by
  match J,h4 with
  |[v1,v2,v3,v4],_=>exact⟨_,_,_,_,rfl⟩
 have e:gR (us.map (cU a b),F,[]) f=[[v1,v2,v3,v4].map λu=>qJ (F.getD f zA).1 (cU a b u)]:=zRP D;have M:=(zI7 (o:=(F.getD f zA).1.2) C G H O).2;unfold zD5;rw[e];have e2:(F.getD f zA).1=(dN d c,(F.getD f zA).1.2):=by rw[U]
 rw[e2];refine Classical.byContradiction λZ=>?_;have h0:ouZ [[v1,v2,v3,v4].map λu=>qJ (dN d c,(F.getD f zA).1.2) (cU a b u)]=0:=if_neg Z;rw[h0] at M;exact absurd M zow
theorem yGF{d:Dir}{c r:Rat}(hd:d.1<3)(hc:0<c):scZ (dN d c,(if d.2 then c else -c)*r)=(dN d 1,(if d.2 then 1 else -1)*r):=by
 obtain⟨G,J⟩:=d;have h3:G=0\/G=1\/G=2:=by have:G<3:=hd;omega
 have H:∀{x:Rat},x≠0->¬yR x=0:=λ{x} hx e=>by unfold yR at e;rw[if_neg hx] at e;split at e<;>omega
 have hz:yR 0=0:=if_pos I;have D:c≠0:=by grind
 have C:-c≠0:=by grind
 have U:ivA c*c=1/\ivA (-c)*c=1:=by
  have Z:((1:Int):Rat)=1:=I;have O:¬c.num<0:=Int.not_lt.2 (Rat.num_nonneg.2 (Rat.le_of_lt hc));have M:(-c).num<0:=Int.not_le.1 λe=>by have:=Rat.num_nonneg.1 e;grind
  have a1:iU c=c:=if_neg O;have a2:iU (-c)=c:=by
   have:iU (-c)= - -c:=if_pos M;rw[this];grind
  unfold ivA;rw[a1,a2,if_neg D,Z];grind
 rcases h3 with rfl|rfl|rfl<;>cases J<;>simp[scZ,dN,T3.set,hz,H D,H C,scW]<;>grind
abbrev I3:=Int×Int×Int
def aI3(u:I3):Nat->Int
  |0=>u.1|1=>u.2.1|_=>u.2.2
def cP(v u:I3):Pt:=T3.mk ((v.1+u.1:Int):Rat) ((v.2.1+u.2.1:Int):Rat) ((v.2.2+u.2.2:Int):Rat)
def nr3(n:I3):Pt:=T3.mk (n.1:Rat) (n.2.1:Rat) (n.2.2:Rat)
def dt3(n u:I3):Int:=n.1*u.1+n.2.1*u.2.1+n.2.2*u.2.2
abbrev FI:=I3×Int×List (List Int)×List Nat
abbrev SI:=List I3×List FI
abbrev z3:I3:=((0:Int),(0:Int),(0:Int))
abbrev fi0:FI:=(z3,(0:Int),([]:List (List Int)),([]:List Nat))
abbrev g3(P:List I3)(k:Nat):I3:=P.getD k z3
def cPl(v:I3)(f:FI):Pl:=(nr3 f.1,((f.2.1+dt3 f.1 v:Int):Rat))
def zKN(v:I3)(f:FI)(x:Fc):Prop:=(∃a:Int,(0<a/\a<=1000)/\x.1=scW (1/(a:Rat)) (cPl v f))/\x.2=f.2.2
theorem zYA{a:Int}(h:0<a):(0:Rat)<1/(a:Rat):=by
 rw[Rat.div_def];exact kP zow (Rat.inv_pos.2 (Rat.intCast_pos.2 h))
theorem zQ8{v:I3}{f:FI}{x:Fc}(h:zKN v f x):∃r:Rat,0<r/\x.1=scW r (cPl v f):=by
 obtain⟨a,C,e⟩:=h.1;exact⟨_,zYA C.1,e⟩
def aJ(v:I3)(I:SI)(s:Sd):Prop:=s.1=I.1.map (cP v)/\s.2.2=[]/\s.2.1.length=I.2.length/\∀f,f<I.2.length->zKN v (I.2.getD f fi0) (s.2.1.getD f zA)
theorem yEA(v u:I3)(n:Nat):(cP v u).at n=((aI3 v n+aI3 u n:Int):Rat):=by
 match n with
 |0=>rfl
 |1=>rfl
 |_+2=>rfl
theorem zI2{v:I3}{P:List I3}{k:Nat}(hk:k<P.length):gp (P.map (cP v)) k=cP v (g3 P k):=by
 show(P.map (cP v)).getD k _=cP v (P.getD k z3)
 rw[zoa,zoa,List.getElem?_map,zoc hk];rfl
theorem yB7(v u:I3)(f:FI)(r:Rat):hgt (scW r (cPl v f)) (cP v u)=r*((dt3 f.1 u-f.2.1:Int):Rat):=by
 unfold hgt scW cPl xH nr3 cP dt3;simp only[Rat.intCast_add,Rat.intCast_sub,Rat.intCast_mul];grind
theorem yG7{v u:I3}{f:FI}{r:Rat}(hr:0<r):sdZ (scW r (cPl v f)) (cP v u)=sgI (dt3 f.1 u-f.2.1):=by
 unfold sdZ;rw[yB7,iA hr,mA];rfl
def iT(n:I3):Nat×Nat:=if 0<n.2.2 then(0,1) else if n.2.2<0 then(1,0) else if 0<n.2.1 then(2,0) else if n.2.1<0 then(0,2) else if 0<n.1 then(1,2) else if n.1<0 then(2,1) else(1,2)
theorem zVT{r:Rat}(hr:0<r)(n:Int):0<r*(n:Rat)↔0<n:=by
 constructor
 · intro h
   refine Int.not_le.1 λe=>?_;have h1:(n:Rat)<=0:=Rat.intCast_nonpos.2 e;have:=Rat.mul_le_mul_of_nonneg_left h1 (Rat.le_of_lt hr);grind
 · intro h
   exact kP hr (Rat.intCast_pos.2 h)
theorem zVU{r:Rat}(hr:0<r)(n:Int):r*(n:Rat)<0↔n<0:=by
 have:=zVT hr (-n);rw[Rat.intCast_neg] at this;constructor
 · intro h
   have:=this.1 zo1;omega
 · intro h
   have:=this.2 zot;grind
theorem zXT{v:I3}{f:FI}{r:Rat}(hr:0<r):axI (scW r (cPl v f)).1=(iT f.1).1/\axJ (scW r (cPl v f)).1=(iT f.1).2:=by
 unfold axI axJ iT scW cPl nr3;simp only[zVT hr,zVU hr]
 repeat' split
 all_goals first|exact⟨I,I⟩|omega
theorem zVV{v:I3}{f:FI}{r:Rat}(hr:0<r)(h:¬f.1=z3):¬(scW r (cPl v f)).1=zT:=λe=>by
 have g:∀n:Int,r*(n:Rat)=0->n=0:=λn e=>by
  rcases zoe.1 e with e|e
  · rw[e] at hr;exact absurd hr zow
  · exact Rat.intCast_inj.1 e
 have e1:=g _ (congrArg T3.x e);have e2:=g _ (congrArg T3.y e);have e3:=g _ (congrArg T3.z e);exact h (Prod.ext e1 (Prod.ext e2 e3))
def flI(a:Nat×Nat)(P:List I3)(x:List Int):List PI:=x.map λk=>(aI3 (g3 P k.toNat) a.1,aI3 (g3 P k.toNat) a.2)
def lpB(n:Nat)(x:List Int):Bool:=decide (3<=x.length/\x.length<=64)&&(List.range x.length).all λi=>decide (0<=x.getD i 0/\x.getD i 0<n)&&(List.range i).all λk=>!decide (x.getD i 0=x.getD k 0)
theorem zX2{n:Nat}{x:List Int}(hn:n<=512)(h:lpB n x=true):lpP x/\nmL n x:=by
 unfold lpB at h;rw[Bool.and_eq_true,decide_eq_true_iff] at h;have g:∀i,i<x.length->(0<=x.getD i 0/\x.getD i 0<n)/\∀k,k<i->¬x.getD i 0=x.getD k 0:=λi hi=>by
  have h1:=zob.1 h.2 i (zog.2 hi);rw[Bool.and_eq_true,decide_eq_true_iff] at h1;refine⟨h1.1,λk C=>?_⟩;have h2:=zob.1 h1.2 k (zog.2 C);rw[Bool.not_eq_true',decide_eq_false_iff_not] at h2;exact h2
 refine⟨⟨h.1,λi hi=>⟨?_,(g i hi).2⟩⟩,λi hi=>(g i hi).1⟩;have:=(g i hi).1;omega
def bd3(u:I3):Bool:=decide ((-1000<=u.1/\u.1<=1000)/\(-1000<=u.2.1/\u.2.1<=1000)/\(-1000<=u.2.2/\u.2.2<=1000))
def faB(P:List I3)(f:FI):Bool:=(bd3 f.1&&decide (-1000<=f.2.1/\f.2.1<=1000))&&(decide (1<=f.2.2.1.length/\f.2.2.1.length<=16)&&f.2.2.1.all (λx=>lpB P.length x&&x.all λk=>decide (dt3 f.1 (g3 P k.toNat)=f.2.1))&&!decide (f.1=z3)&&nsI (f.2.2.1.map (flI (iT f.1) P)))
def dsB(P:List I3):Bool:=(List.range P.length).all λi=>(List.range i).all λk=>!decide (g3 P i=g3 P k)
def chI(I:SI):Bool:=I.1.all bd3&&(decide (I.1.length<=512/\I.2.length<=256)&&I.2.all (faB I.1)&&dsB I.1&&clB (edZ (I.2.map λf=>f.2.2.1)))
theorem mN{α:Type}(d:α){l k:List α}(hl:l.length=k.length)(h:∀i,i<l.length->l.getD i d=k.getD i d):l=k:=by
 refine List.ext_getElem hl λi h1 h2=>?_;have:=h i h1;rw[zoa,zoa,zoc h1,zoc h2] at this;exact this
theorem gQ{α β:Type}(g:α->β)(d:α)(e:β){l:List α}{i:Nat}(hi:i<l.length):(l.map g).getD i e=g (l.getD i d):=by
 rw[zoa,zoa,List.getElem?_map,zoc hi];rfl
section
variable {v:I3}{I:SI}{s:Sd}
theorem zIZ(h:aJ v I s):vN s=I.2.map λf=>f.2.2.1:=by
 obtain⟨h1,h2,h3,D⟩:=h;refine mN [] (by rw[sV,List.length_map,h3]) λf C=>?_;rw[sV,h3] at C;rw[mK zot,gQ (λf:FI=>f.2.2.1) fi0 [] C,(D f C).2]
theorem mJ{f:Nat}(h:aJ v I s)(hb:chI I=true)(hf:f<I.2.length):faB I.1 (I.2.getD f fi0)=true:=by
 unfold chI at hb;replace hb:=(Bool.and_eq_true _ _▸hb).2;rw[Bool.and_eq_true,Bool.and_eq_true,Bool.and_eq_true] at hb;exact zob.1 hb.1.1.2 _ (gC hf)
theorem oL(h:aJ v I s):s.1.length=I.1.length:=by rw[h.1,List.length_map]
theorem zG2{P:List I3}{f:FI}(h:faB P f=true){l:Nat}(hl:l<f.2.2.1.length):lpB P.length (f.2.2.1.getD l [])=true/\∀k,k<(f.2.2.1.getD l []).length->dt3 f.1 (g3 P ((f.2.2.1.getD l []).getD k 0).toNat)=f.2.1:=by
 unfold faB at h;replace h:=(Bool.and_eq_true _ _▸h).2;rw[Bool.and_eq_true,Bool.and_eq_true,Bool.and_eq_true] at h;have h1:=zob.1 h.1.1.2 _ (gC (d:=[]) hl);rw[Bool.and_eq_true] at h1;refine⟨h1.1,λk C=>?_⟩;exact of_decide_eq_true (zob.1 h1.2 _ (gC (d:=0) C))
theorem zXS{f:Nat}(h:aJ v I s)(hb:chI I=true)(hf:f<I.2.length):nmP s f/\vfP (s.2.1.getD f zA).2.1:=by
 have D:=mJ h hb hf;have e:(s.2.1.getD f zA).2.1=(I.2.getD f fi0).2.2.1:=congrArg Prod.fst (h.2.2.2 f hf).2;have H:I.1.length<=512:=by
  unfold chI at hb;replace hb:=(Bool.and_eq_true _ _▸hb).2;rw[Bool.and_eq_true,Bool.and_eq_true,Bool.and_eq_true,decide_eq_true_iff] at hb;exact hb.1.1.1.1
 have h1:1<=(I.2.getD f fi0).2.2.1.length/\(I.2.getD f fi0).2.2.1.length<=16:=by
  have C:=D;unfold faB at C;replace C:=(Bool.and_eq_true _ _▸C).2;rw[Bool.and_eq_true,Bool.and_eq_true,Bool.and_eq_true,decide_eq_true_iff] at C;exact C.1.1.1
 refine⟨λl G=>?_,?_⟩
 · rw[e] at G ⊢
   rw[oL h];exact(zX2 H (zG2 D G).1).2
 · rw[e]
   exact⟨h1,λl G=>(zX2 H (zG2 D G).1).1⟩
theorem zRB{f:Nat}(h:aJ v I s)(hb:chI I=true)(hf:f<I.2.length):(vT s f).length=(I.2.getD f fi0).2.2.1.length/\∀l,l<(I.2.getD f fi0).2.2.1.length->(gl (vT s f) l).length=((I.2.getD f fi0).2.2.1.getD l []).length/\∀k,k<((I.2.getD f fi0).2.2.1.getD l []).length->gp (gl (vT s f) l) k=cP v (g3 I.1 (((I.2.getD f fi0).2.2.1.getD l []).getD k 0).toNat):=by
 have e:(s.2.1.getD f zA).2.1=(I.2.getD f fi0).2.2.1:=congrArg Prod.fst (h.2.2.2 f hf).2;have D:=(zXS h hb hf).1;rw[zQA (by rw[h.2.2.1];exact hf) D];refine⟨by rw[<-e];exact yY _ _,λl J=>?_⟩;have C:l<(s.2.1.getD f zA).2.1.length:=by rw[e];exact J
 have M:gl (zG6 s f (s.2.1.getD f zA).2.1.length) l=zFK s.1 ((s.2.1.getD f zA).2.1.getD l []) ((s.2.1.getD f zA).2.1.getD l []).length:=uT _ _ C;rw[M,e];refine⟨yY _ _,λk G=>?_⟩;have H:=D l C k (by rw[e];exact G);rw[e,oL h] at H;have O:gp (zFK s.1 ((I.2.getD f fi0).2.2.1.getD l []) ((I.2.getD f fi0).2.2.1.getD l []).length) k=gp s.1 (((I.2.getD f fi0).2.2.1.getD l []).getD k 0).toNat:=uT _ _ G;rw[O,h.1,zI2 zot]
theorem zQ9{f:Nat}(h:aJ v I s)(hb:chI I=true)(hf:f<I.2.length):yHK (aI3 v (iT (I.2.getD f fi0).1).1:Rat) 1 (aI3 v (iT (I.2.getD f fi0).1).2:Rat) 1 ((I.2.getD f fi0).2.2.1.map (flI (iT (I.2.getD f fi0).1) I.1)) (gR s f):=by
 obtain⟨U,c2⟩:=zRB h hb hf;obtain⟨r,M,H⟩:=zQ8 (h.2.2.2 f hf);have D:=dW s f;refine⟨by rw[D.1,U,List.length_map],λl G=>?_⟩;rw[List.length_map] at G;obtain⟨O,c4⟩:=c2 l G;rw[gQ (flI (iT (I.2.getD f fi0).1) I.1) [] [] G];have J:(gl (gR s f) l).length=((I.2.getD f fi0).2.2.1.getD l []).length:=by rw[D.2 l];exact O
 refine⟨by rw[J];exact(List.length_map _).symm,λm hm=>?_⟩;have C:m<((I.2.getD f fi0).2.2.1.getD l []).length:=by
  have:(flI (iT (I.2.getD f fi0).1) I.1 ((I.2.getD f fi0).2.2.1.getD l [])).length=((I.2.getD f fi0).2.2.1.getD l []).length:=List.length_map _;omega
 have e1:gl (gR s f) l=flA (s.2.1.getD f zA).1 (gl (vT s f) l) (gl (vT s f) l).length:=uT _ _ (by rw[U];exact G);have e2:gp (flA (s.2.1.getD f zA).1 (gl (vT s f) l) (gl (vT s f) l).length) m=qJ (s.2.1.getD f zA).1 (gp (gl (vT s f) l) m):=uT _ _ (by rw[O];exact C);rw[e1,e2,c4 m C,H];unfold qJ;rw[(zXT M).1,(zXT M).2,yEA,yEA];have Z:gI (flI (iT (I.2.getD f fi0).1) I.1 ((I.2.getD f fi0).2.2.1.getD l [])) m=(aI3 (g3 I.1 (((I.2.getD f fi0).2.2.1.getD l []).getD m 0).toNat) (iT (I.2.getD f fi0).1).1,aI3 (g3 I.1 (((I.2.getD f fi0).2.2.1.getD l []).getD m 0).toNat) (iT (I.2.getD f fi0).1).2):=by
  unfold gI flI;exact gQ (λk:Int=>(aI3 (g3 I.1 k.toNat) (iT (I.2.getD f fi0).1).1,aI3 (g3 I.1 k.toNat) (iT (I.2.getD f fi0).1).2)) 0 (0,0) C
 rw[Z];unfold ag pr;rw[Rat.one_mul,Rat.one_mul,<-Rat.intCast_add,<-Rat.intCast_add]
 rfl
theorem zGG{f:Nat}(h:aJ v I s)(hb:chI I=true)(hf:f<I.2.length):uA (gR s f) 0 1=0/\ouZ (gR s f)=1/\∀l,l∈gR s f->cQ l:=by
 have C:=mJ h hb hf;unfold faB at C;replace C:=(Bool.and_eq_true _ _▸C).2;rw[Bool.and_eq_true] at C;exact zMX zow zow (zQ9 h hb hf) C.2
theorem yI5{v u w:I3}(h:cP v u=cP v w):u=w:=by
 have G:=Rat.intCast_inj.1 (congrArg T3.x h);have D:=Rat.intCast_inj.1 (congrArg T3.y h);have C:=Rat.intCast_inj.1 (congrArg T3.z h);exact Prod.ext zot (Prod.ext zot zot)
theorem zBM(h:aJ v I s)(hb:chI I=true):gK s/\okS s:=by
 have G:=hb;unfold chI at G;replace G:=(Bool.and_eq_true _ _▸G).2;rw[Bool.and_eq_true,Bool.and_eq_true,Bool.and_eq_true,decide_eq_true_iff] at G;obtain⟨⟨⟨aa,_⟩,U⟩,Z⟩:=G;have ac:=oL h;have ab:=h.2.2.1;have H:∀f,f<s.2.1.length->nmP s f/\vfP (s.2.1.getD f zA).2.1:=λf C=>zXS h hb zot;have M:vaP (vN s):=⟨by rw[sV];omega,λf C=>by rw[sV] at C;rw[mK C];exact(H f C).2⟩;constructor
 · refine zQQ (yDM ?_ λf C=>⟨(H f C).2,(H f C).1⟩) (yDK λi k hk hi e=>?_) (yDO (λf C=>?_) λf C l hl k hk=>?_) (yDS λf C=>?_) (yD7 M ?_)
   · unfold zN3
     rw[h.2.1]
     show ¬((512<s.1.length\/256<s.2.1.length)\/1024<0)
     omega
   · rw[h.1,zI2 zot,zI2 zot] at e
     have h1:=zob.1 (zob.1 U i (zog.2 zot)) k (zog.2 hk);rw[Bool.not_eq_true',decide_eq_false_iff_not] at h1;exact h1 (yI5 e)
   · obtain⟨r,O,J⟩:=zQ8 (h.2.2.2 f zot)
     rw[J];refine zVV O λe=>?_;have D:=mJ h hb (f:=f) zot;unfold faB at D;replace D:=(Bool.and_eq_true _ _▸D).2;rw[Bool.and_eq_true,Bool.and_eq_true,Bool.not_eq_true',decide_eq_false_iff_not] at D;exact D.1.2 e
   · obtain⟨r,O,J⟩:=zQ8 (h.2.2.2 f zot)
     obtain⟨c1,c2⟩:=zRB h hb (f:=f) zot;obtain⟨c3,c4⟩:=c2 l zot;rw[c4 k zot,J,yG7 O,(zG2 (mJ h hb (f:=f) zot) (l:=l) zot).2 k zot,Int.sub_self]
     rfl
   · exact⟨(zGG h hb zot).1,(zGG h hb zot).2.1⟩
   · rw[zIZ h];exact Z
 · refine⟨⟨⟨by omega,by omega⟩,by rw[h.2.1];exact Nat.zero_le _⟩,λf C=>?_,λf C x hx=>(zGG h hb zot).2.2 x hx⟩
   have h1:=(H f C).2;exact⟨h1.1.2,λl hl=>(h1.2 l hl).1.2⟩
end
theorem zQ2(u v w:P2):0<orZ u v w↔0<cr u v w:=dB
theorem zWW(u v w:P2):orZ u v w<0↔cr u v w<0:=jQ
theorem zRZ{a b p:P2}(h:a.2=b.2):¬jP a b p:=λe=>e.1 (by rw[h])
theorem yC0{a b p:P2}(h:a.1=b.1)(hu:a.2<b.2):jP a b p↔(a.2<=p.2/\p.2<b.2)/\p.1<a.1:=by
 have e:cr a b p=(b.2-a.2)*(a.1-p.1):=by unfold cr;rw[<-h];grind
 have C:0<b.2-a.2:=by grind
 have g:0<cr a b p↔p.1<a.1:=by
  rw[e];constructor
  · intro k
    refine Rat.not_le.1 λD=>?_;have:0<=(b.2-a.2)*(p.1-a.1):=zod (Rat.le_of_lt C) zo1;grind
  · intro k
    exact kP C zo1
 have G:cr a b p<0↔a.1<p.1:=by
  rw[e];constructor
  · intro k
    refine Rat.not_le.1 λD=>?_;have:0<=(b.2-a.2)*(a.1-p.1):=zod (Rat.le_of_lt C) zo1;grind
  · intro k
    have:=kP C (show 0<p.1-a.1 by grind);grind
 unfold jP;rw[zQ2,zWW,g,G];constructor
 · rintro⟨h1,h2⟩
   rcases h2 with⟨h3,h4⟩|⟨h3,h4⟩
   · exact⟨⟨h3,Rat.not_le.1 λk=>h1 ⟨λ_=>k,λ_=>h3⟩⟩,h4⟩
   · exact absurd ⟨λ_=>h3,λ_=>by grind⟩ h1
 · rintro⟨⟨h1,h2⟩,h3⟩
   exact⟨λk=>absurd (k.1 h1) (Rat.not_le.2 h2),.inl ⟨h1,h3⟩⟩
theorem yC1{a b p:P2}(h:a.1=b.1)(hu:b.2<a.2):jP a b p↔(b.2<=p.2/\p.2<a.2)/\p.1<a.1:=by
 have e:cr a b p= -((a.2-b.2)*(a.1-p.1)):=by unfold cr;rw[<-h];grind
 have C:0<a.2-b.2:=by grind
 have g:cr a b p<0↔p.1<a.1:=by
  rw[e];constructor
  · intro k
    refine Rat.not_le.1 λD=>?_;have:0<=(a.2-b.2)*(p.1-a.1):=zod (Rat.le_of_lt C) zo1;grind
  · intro k
    have:=kP C (show 0<a.1-p.1 by grind);grind
 have G:0<cr a b p↔a.1<p.1:=by
  rw[e];constructor
  · intro k
    refine Rat.not_le.1 λD=>?_;have:0<=(a.2-b.2)*(a.1-p.1):=zod (Rat.le_of_lt C) zo1;grind
  · intro k
    have:=kP C (show 0<p.1-a.1 by grind);grind
 unfold jP;rw[zQ2,zWW,g,G];constructor
 · rintro⟨h1,h2⟩
   rcases h2 with⟨h3,h4⟩|⟨h3,h4⟩
   · exact absurd ⟨λ_=>by grind,λ_=>h3⟩ h1
   · exact⟨⟨h3,Rat.not_le.1 λk=>h1 ⟨λ_=>h3,λ_=>k⟩⟩,h4⟩
 · rintro⟨⟨h1,h2⟩,h3⟩
   exact⟨λk=>absurd (k.2 h1) (Rat.not_le.2 h2),.inr ⟨h1,h3⟩⟩
def rcP(x y X Y:Rat):List P2:=[(x,y),(X,y),(X,Y),(x,Y)]
def yGN(l:List Pt)(i j:Nat)(x y X Y:Rat):Prop:=l.length=4/\∃r,r<4/\∀m,m<4->pr (gp l m) i j=(rcP x y X Y).getD ((m+r)%4) (0,0)
variable {x y X Y:Rat}
theorem yKO{a b p:P2}(h:a.2=b.2):onS a b p↔p.2=a.2/\jF a.1 b.1 p.1:=by
 unfold onS;constructor
 · rintro⟨h1,h2,h3⟩
   unfold jF at h2;exact⟨by grind,h1⟩
 · rintro⟨h1,h2⟩
   refine⟨h2,?_,?_⟩
   · unfold jF;grind
   · unfold cr;grind
theorem yKN{a b p:P2}(h:a.1=b.1):onS a b p↔p.1=a.1/\jF a.2 b.2 p.2:=by
 unfold onS;constructor
 · rintro⟨h1,h2,h3⟩
   unfold jF at h1;exact⟨by grind,h2⟩
 · rintro⟨h1,h2⟩
   refine⟨?_,h2,?_⟩
   · unfold jF;grind
   · unfold cr;grind
def bdP(x y X Y:Rat)(p:P2):Prop:=(x<=p.1/\p.1<=X/\y<=p.2/\p.2<=Y)/\¬(x<p.1/\p.1<X/\y<p.2/\p.2<Y)
def zP6(x y X Y:Rat)(p:P2):Prop:=x<p.1/\p.1<X/\y<p.2/\p.2<Y
theorem zYB{l:List Pt}{i j:Nat}{p:P2}(hx:x<X)(hy:y<Y)(h:yGN l i j x y X Y):fG l p i j=if bdP x y X Y p then 0 else if zP6 x y X Y p then 1 else -1:=by
 obtain⟨Z,r,hr,hm⟩:=h;have M:∀m,m<4->vV l i j m=(rcP x y X Y).getD ((m+r)%4) (0,0):=hm;have J:∀m,m<4->vS l i j m=(rcP x y X Y).getD ((m+1+r)%4) (0,0):=λm h4=>by
  unfold vS;rw[Z,hm _ (Nat.mod_lt _ zow)]
  congr 1
  omega
 have O:(∃m,m<l.length/\onS (vV l i j m) (vS l i j m) p)↔bdP x y X Y p:=by
  have U:(∃m,m<l.length/\onS (vV l i j m) (vS l i j m) p)↔(onS (x,y) (X,y) p\/onS (X,y) (X,Y) p\/onS (X,Y) (x,Y) p\/onS (x,Y) (x,y) p):=by
   rw[Z];constructor
   · rintro⟨m,h4,C⟩
     rw[M m h4,J m h4] at C;have e:(m+1+r)%4=((m+r)%4+1)%4:=by omega
     rw[e] at C;generalize hq:(m+r)%4=q at C;have:q=0\/q=1\/q=2\/q=3:=by omega
     rcases this with rfl|rfl|rfl|rfl
     · exact .inl C
     · exact .inr (.inl C)
     · exact .inr (.inr (.inl C))
     · exact .inr (.inr (.inr C))
   · have g:∀q,q<4->onS ((rcP x y X Y).getD q (0,0)) ((rcP x y X Y).getD ((q+1)%4) (0,0)) p->∃m,m<4/\onS (vV l i j m) (vS l i j m) p:=λq hq C=>by
      refine⟨(q+4-r)%4,Nat.mod_lt _ zow,?_⟩;rw[M _ (Nat.mod_lt _ zow),J _ (Nat.mod_lt _ zow),show((q+4-r)%4+r)%4=q by omega,show((q+4-r)%4+1+r)%4=(q+1)%4 by omega];exact C
     rintro(C|C|C|C)
     · exact g 0 zow C
     · exact g 1 zow C
     · exact g 2 zow C
     · exact g 3 zow C
  have o1:onS (x,y) (X,y) p↔p.2=y/\jF x X p.1:=yKO I;have o2:onS (X,y) (X,Y) p↔p.1=X/\jF y Y p.2:=yKN I;have o3:onS (X,Y) (x,Y) p↔p.2=Y/\jF X x p.1:=yKO I;have o4:onS (x,Y) (x,y) p↔p.1=x/\jF Y y p.2:=yKN I;rw[U,o1,o2,o3,o4];unfold jF bdP;constructor
  · rintro(⟨h1,h2⟩|⟨h1,h2⟩|⟨h1,h2⟩|⟨h1,h2⟩)<;>refine⟨⟨?_,?_,?_,?_⟩,?_⟩<;>grind
  · rintro⟨⟨a1,a2,a3,a4⟩,hn⟩
    by_cases e1:p.2=y
    · exact .inl ⟨e1,.inl ⟨a1,a2⟩⟩
    · by_cases e2:p.1=X
      · exact .inr (.inl ⟨e2,.inl ⟨a3,a4⟩⟩)
      · by_cases e3:p.2=Y
        · exact .inr (.inr (.inl ⟨e3,by grind⟩))
        · by_cases e4:p.1=x
          · exact .inr (.inr (.inr ⟨e4,by grind⟩))
          · exact absurd ⟨by grind,by grind,by grind,by grind⟩ hn
 have G:¬bdP x y X Y p->(kC l p i j l.length↔zP6 x y X Y p):=by
  intro H;rw[Z];have c0:¬jP ((rcP x y X Y).getD 0 (0,0)) ((rcP x y X Y).getD 1 (0,0)) p:=zRZ I;have c1:jP ((rcP x y X Y).getD 1 (0,0)) ((rcP x y X Y).getD 2 (0,0)) p↔(y<=p.2/\p.2<Y)/\p.1<X:=yC0 (a:=(X,y)) (b:=(X,Y)) I hy;have c2:¬jP ((rcP x y X Y).getD 2 (0,0)) ((rcP x y X Y).getD 3 (0,0)) p:=zRZ I;have c3:jP ((rcP x y X Y).getD 3 (0,0)) ((rcP x y X Y).getD 0 (0,0)) p↔(y<=p.2/\p.2<Y)/\p.1<x:=yC1 (a:=(x,Y)) (b:=(x,y)) I hy;have aa:zP6 x y X Y p↔((y<=p.2/\p.2<Y)/\p.1<X)/\¬((y<=p.2/\p.2<Y)/\p.1<x):=by
   unfold bdP at H;unfold zP6;grind
  rw[aa,<-c1,<-c3];have D:∀n,kC l p i j (n+1)↔(jP (vV l i j n) (vS l i j n) p/\¬kC l p i j n)\/(¬jP (vV l i j n) (vS l i j n) p/\kC l p i j n):=λn=>Iff.rfl;have z:¬kC l p i j 0:=id;rw[D 3,D 2,D 1,D 0,M 0 zow,M 1 zow,M 2 zow,M 3 zow,J 0 zow,J 1 zow,J 2 zow,J 3 zow];have:r=0\/r=1\/r=2\/r=3:=by omega
  have ab:jP ((rcP x y X Y).getD 3 (0,0)) ((rcP x y X Y).getD 0 (0,0)) p->jP ((rcP x y X Y).getD 1 (0,0)) ((rcP x y X Y).getD 2 (0,0)) p:=λe=>c1.2 ⟨(c3.1 e).1,by have:=(c3.1 e).2;grind⟩
  rcases this with rfl|rfl|rfl|rfl<;>simp only[Nat.reduceAdd,Nat.reduceMod,c0,c2,z]<;>grind
 unfold fG
 by_cases H:bdP x y X Y p
 · rw[if_pos (O.2 H),if_pos H]
 · rw[if_neg λe=>H (O.1 e),if_neg H]
   by_cases hi:zP6 x y X Y p
   · rw[if_pos ((G H).2 hi),if_pos hi]
   · rw[if_neg λe=>hi ((G H).1 e),if_neg hi]
def exI(h l2 h2 l3 h3:Rat):Prop:=0<h/\(l2<h/\h<h2)/\l3<h/\h<h3
def iI(h l2 h2 l3 h3:Rat):Prop:=0<h->(l2<=h/\h<=h2)->(l3<=h/\h<=h3)->(l2<h/\h<h2)/\l3<h/\h<h3
noncomputable def cW(p:Prop):Int:=if p then 1 else 0
theorem lD{p:Prop}(h:p):cW p=1:=if_pos h
theorem kG{p:Prop}(h:¬p):cW p=0:=if_neg h
variable {l1 h1 l2 h2 l3 h3:Rat}
theorem yIA(a1:l1<h1)(a2:l2<h2)(a3:l3<h3)(k1:iI h1 l2 h2 l3 h3)(k2:iI h2 l1 h1 l3 h3)(k3:iI h3 l1 h1 l2 h2):
 cW (exI h1 l2 h2 l3 h3)+cW (exI h2 l1 h1 l3 h3)+cW (exI h3 l1 h1 l2 h2)=cW ((0<h1/\0<h2/\0<h3)/\(l1<h2/\l1<h3)/\(l2<h1/\l2<h3)/\l3<h1/\l3<h2):=by
 by_cases hc:(0<h1/\0<h2/\0<h3)/\(l1<h2/\l1<h3)/\(l2<h1/\l2<h3)/\l3<h1/\l3<h2
 · rw[lD hc]
   obtain⟨⟨M,J,H⟩,⟨q1,q2⟩,⟨q3,q4⟩,Z,U⟩:=hc
   by_cases e1:h1<=h2/\h1<=h3
   · have s:=k1 M ⟨by grind,e1.1⟩ ⟨by grind,e1.2⟩
     have G:exI h1 l2 h2 l3 h3:=⟨M,s⟩;have D:¬exI h2 l1 h1 l3 h3:=λe=>by unfold exI at e;grind
     have C:¬exI h3 l1 h1 l2 h2:=λe=>by unfold exI at e;grind
     rw[lD G,kG D,kG C];rfl
   · by_cases e2:h2<=h1/\h2<=h3
     · have s:=k2 J ⟨by grind,e2.1⟩ ⟨by grind,e2.2⟩
       have G:¬exI h1 l2 h2 l3 h3:=λe=>by unfold exI at e;grind
       have D:exI h2 l1 h1 l3 h3:=⟨J,s⟩;have C:¬exI h3 l1 h1 l2 h2:=λe=>by unfold exI at e;grind
       rw[kG G,lD D,kG C];rfl
     · have O:h3<=h1/\h3<=h2:=by grind
       have s:=k3 H ⟨by grind,O.1⟩ ⟨by grind,O.2⟩;have G:¬exI h1 l2 h2 l3 h3:=λe=>by unfold exI at e;grind
       have D:¬exI h2 l1 h1 l3 h3:=λe=>by unfold exI at e;grind
       have C:exI h3 l1 h1 l2 h2:=⟨H,s⟩;rw[kG G,kG D,lD C];rfl
 · have G:¬exI h1 l2 h2 l3 h3:=λe=>hc (by unfold exI at e;grind)
   have D:¬exI h2 l1 h1 l3 h3:=λe=>hc (by unfold exI at e;grind);have C:¬exI h3 l1 h1 l2 h2:=λe=>hc (by unfold exI at e;grind);rw[kG G,kG D,kG C,kG hc];rfl
def enI(l l2 h2 l3 h3:Rat):Prop:=0<l/\(l2<l/\l<h2)/\l3<l/\l<h3
theorem yIE(a1:l1<h1)(a2:l2<h2)(a3:l3<h3)(k1:iI l1 l2 h2 l3 h3)(k2:iI l2 l1 h1 l3 h3)(k3:iI l3 l1 h1 l2 h2):
 cW (enI l1 l2 h2 l3 h3)+cW (enI l2 l1 h1 l3 h3)+cW (enI l3 l1 h1 l2 h2)=cW ((0<l1\/0<l2\/0<l3)/\(l1<h2/\l1<h3)/\(l2<h1/\l2<h3)/\l3<h1/\l3<h2):=by
 by_cases hc:(0<l1\/0<l2\/0<l3)/\(l1<h2/\l1<h3)/\(l2<h1/\l2<h3)/\l3<h1/\l3<h2
 · rw[lD hc]
   obtain⟨p1,⟨q1,Z⟩,⟨U,O⟩,M,J⟩:=hc
   by_cases e1:l2<=l1/\l3<=l1
   · have p:0<l1:=by grind
     have s:=k1 p ⟨e1.1,by grind⟩ ⟨e1.2,by grind⟩;have G:enI l1 l2 h2 l3 h3:=⟨p,s⟩;have D:¬enI l2 l1 h1 l3 h3:=λe=>by unfold enI at e;grind
     have C:¬enI l3 l1 h1 l2 h2:=λe=>by unfold enI at e;grind
     rw[lD G,kG D,kG C];rfl
   · by_cases e2:l1<=l2/\l3<=l2
     · have p:0<l2:=by grind
       have s:=k2 p ⟨e2.1,by grind⟩ ⟨e2.2,by grind⟩;have G:¬enI l1 l2 h2 l3 h3:=λe=>by unfold enI at e;grind
       have D:enI l2 l1 h1 l3 h3:=⟨p,s⟩;have C:¬enI l3 l1 h1 l2 h2:=λe=>by unfold enI at e;grind
       rw[kG G,lD D,kG C];rfl
     · have H:l1<=l3/\l2<=l3:=by grind
       have p:0<l3:=by grind
       have s:=k3 p ⟨H.1,by grind⟩ ⟨H.2,by grind⟩;have G:¬enI l1 l2 h2 l3 h3:=λe=>by unfold enI at e;grind
       have D:¬enI l2 l1 h1 l3 h3:=λe=>by unfold enI at e;grind
       have C:enI l3 l1 h1 l2 h2:=⟨p,s⟩;rw[kG G,kG D,lD C];rfl
 · have G:¬enI l1 l2 h2 l3 h3:=λe=>hc (by unfold enI at e;grind)
   have D:¬enI l2 l1 h1 l3 h3:=λe=>hc (by unfold enI at e;grind);have C:¬enI l3 l1 h1 l2 h2:=λe=>hc (by unfold enI at e;grind);rw[kG G,kG D,kG C,kG hc];rfl
theorem yHL(a1:l1<h1)(a2:l2<h2)(a3:l3<h3)(k1:iI h1 l2 h2 l3 h3)(k2:iI h2 l1 h1 l3 h3)(k3:iI h3 l1 h1 l2 h2)(m1:iI l1 l2 h2 l3 h3)(m2:iI l2 l1 h1 l3 h3)(m3:iI l3 l1 h1 l2 h2)
    (h0:l1<=0/\0<=h1->l2<=0/\0<=h2->l3<=0/\0<=h3->(l1<0/\0<h1)/\(l2<0/\0<h2)/\l3<0/\0<h3):
    cW (exI h1 l2 h2 l3 h3)+cW (exI h2 l1 h1 l3 h3)+cW (exI h3 l1 h1 l2 h2)-(cW (enI l1 l2 h2 l3 h3)+cW (enI l2 l1 h1 l3 h3)+cW (enI l3 l1 h1 l2 h2))=cW ((l1<0/\0<h1)/\(l2<0/\0<h2)/\l3<0/\0<h3):=by
 rw[yIA a1 a2 a3 k1 k2 k3,yIE a1 a2 a3 m1 m2 m3]
 by_cases hm:(l1<h2/\l1<h3)/\(l2<h1/\l2<h3)/\l3<h1/\l3<h2
 · by_cases hp:0<h1/\0<h2/\0<h3
   · by_cases C:0<l1\/0<l2\/0<l3
     · have hi:¬((l1<0/\0<h1)/\(l2<0/\0<h2)/\l3<0/\0<h3):=λe=>by grind
       rw[lD ⟨hp,hm⟩,lD ⟨C,hm⟩,kG hi];rfl
     · have hi:=h0 ⟨by grind,by grind⟩ ⟨by grind,by grind⟩ ⟨by grind,by grind⟩
       rw[lD ⟨hp,hm⟩,kG λe=>C e.1,lD hi];rfl
   · have C:¬(0<l1\/0<l2\/0<l3):=λe=>by grind
     have hi:¬((l1<0/\0<h1)/\(l2<0/\0<h2)/\l3<0/\0<h3):=λe=>by grind
     rw[kG λe=>hp e.1,kG λe=>C e.1,kG hi];rfl
 · have hi:¬((l1<0/\0<h1)/\(l2<0/\0<h2)/\l3<0/\0<h3):=λe=>hm zo1
   rw[kG λe=>hm e.2,kG λe=>hm e.2,kG hi];rfl
variable {a b:Pt}
def plD(a b:Pt)(d:Dir):Pl:=(dN d 1,(if d.2 then 1 else -1)*(if d.2 then b.at d.1 else a.at d.1))
theorem aE(h:a.x<b.x/\a.y<b.y/\a.z<b.z){us:List B3}{F:List Fc}{f:Nat}(hf:f<F.length){d:Dir}(hd:mR a b us d (F.getD f zA))(ix:List Int){x:List Int}(hx:(F.getD f zA).2.1=[x]):
 nfF (us.map (cU a b),F,[]) ix f=(plD a b d,[zSZ (uZ (λq=>ix.getD (x.getD q 0).toNat 0) x.length)],(F.getD f zA).2.2):=by
 have H:=zQZ h hf hd;obtain⟨D,c,G,C,_⟩:=hd;unfold nfF
 show(scZ (F.getD f zA).1,ouL (us.map (cU a b),F,[]) ix f ((F.getD f zA).2.1).length++zAF (us.map (cU a b),F,[]) ix f ((F.getD f zA).2.1).length,(F.getD f zA).2.2)=_
 rw[C,yGF D G,hx];have O:ouL (us.map (cU a b),F,[]) ix f 1=[nfL (us.map (cU a b),F,[]) ix f 0]:=by
  unfold ouL;rw[<-zA2 H];rfl
 have M:zAF (us.map (cU a b),F,[]) ix f 1=[]:=if_pos H
 show(_,ouL _ ix f 1++zAF _ ix f 1,_)=_
 rw[O,M];have J:nfL (us.map (cU a b),F,[]) ix f 0=zSZ (uZ (λq=>ix.getD (x.getD q 0).toNat 0) x.length):=by
  unfold nfL nwL
  show zSZ (uZ (λq=>ix.getD ((((F.getD f zA).2.1).getD 0 []).getD q 0).toNat 0) (((F.getD f zA).2.1).getD 0 []).length)=_
  rw[hx];rfl
 rw[J];rfl
theorem zXH(h:a.x<b.x/\a.y<b.y/\a.z<b.z)(ix:List Int)(hix:ix=[0,4,6,2,1,5,7,3]):
 nfF (pB0 a b,fB0 a b,[]) ix 0=(plD a b (1,false),[[0,4,5,1]],nmS 0 0)/\nfF (pB0 a b,fB0 a b,[]) ix 1=(plD a b (0,true),[[4,6,7,5]],nmS 0 1)/\nfF (pB0 a b,fB0 a b,[]) ix 2=(plD a b (1,true),[[2,3,7,6]],nmS 0 2)/\
 nfF (pB0 a b,fB0 a b,[]) ix 3=(plD a b (0,false),[[0,1,3,2]],nmS 0 3)/\nfF (pB0 a b,fB0 a b,[]) ix 4=(plD a b (2,false),[[0,2,6,4]],[98,111,116,116,111,109])/\nfF (pB0 a b,fB0 a b,[]) ix 5=(plD a b (2,true),[[1,5,7,3]],[116,111,112]):=by
 subst hix;have g:=zRV h;rw[oB];refine⟨?_,?_,?_,?_,?_,?_⟩
 · rw[aE h (F:=fB0 a b) (f:=0) (show 0<6 by decide) g.1 _ (x:=[0,1,5,4]) I];rfl
 · rw[aE h (F:=fB0 a b) (f:=1) (show 1<6 by decide) g.2.1 _ (x:=[1,2,6,5]) I];rfl
 · rw[aE h (F:=fB0 a b) (f:=2) (show 2<6 by decide) g.2.2.1 _ (x:=[2,3,7,6]) I];rfl
 · rw[aE h (F:=fB0 a b) (f:=3) (show 3<6 by decide) g.2.2.2.1 _ (x:=[3,0,4,7]) I];rfl
 · rw[aE h (F:=fB0 a b) (f:=4) (show 4<6 by decide) g.2.2.2.2.1 _ (x:=[3,2,1,0]) I];rfl
 · rw[aE h (F:=fB0 a b) (f:=5) (show 5<6 by decide) g.2.2.2.2.2 _ (x:=[4,5,6,7]) I];rfl
def lsB:List Nat->List Nat->Bool
  |[],[]=>false
  |[],_::_=>true
  |_::_,[]=>false
  |x::a,y::b=>if x=y then lsB a b else decide (x<y)
theorem zXW:∀a b:List Nat,lsN a b↔lsB a b=true
  |[],[]=>by simp[lsN,lsB]
  |[],_::_=>by simp[lsN,lsB]
  |_::_,[]=>by simp[lsN,lsB]
  |x::a,y::b=>by
   have ih:=zXW a b
   by_cases h:x=y
   · simp[lsN,lsB,h,ih]
   · simp[lsN,lsB,h]
def nsB(nm:Nat->List Nat):Nat->List Nat
  |0=>[]
  |f+1=>iP (nsB nm f) (zD0 (λk=>lsB (nm f) (nm ((nsB nm f).getD k 0))) (nsB nm f).length) f
theorem zKJ(nm:Nat->List Nat):∀f x,x∈nsB nm f->x<f
  |f+1,x,h=>by
   unfold nsB iP at h
   rcases List.mem_append.1 h with h|h
   · have:=zKJ nm f x (List.mem_of_mem_take h);omega
   · rcases List.mem_cons.1 h with rfl|h
     · omega
     · have:=zKJ nm f x (List.mem_of_mem_drop h);omega
theorem zYE{α β:Type}(g:α->β)(l:List α)(k:Nat)(x:α):iP (l.map g) k (g x)=(iP l k x).map g:=by
 unfold iP;rw[List.map_append,List.map_cons,List.map_take,List.map_drop]
theorem zKI{s:Sd}{nm:Nat->List Nat}{n:Nat}(hn:∀i,i<n->(nfF s (ixZ s) i).2.2=nm i)(hd:∀i,i<n->∀k,k<i->¬nm i=nm k):∀f,f<=n->s9 s f=(nsB nm f).map λi=>nfF s (ixZ s) i
  |0,_=>rfl
  |f+1,hf=>by
   have ih:=zKI hn hd f zot;unfold s9 nsB;have hb:aM (zPY (nfF s (ixZ s) f) (s9 s f)) (s9 s f).length=zD0 (λk=>lsB (nm f) (nm ((nsB nm f).getD k 0))) (nsB nm f).length:=by
    rw[ih,List.length_map];refine zB5 _ λk C=>?_;have D:=zKJ nm f _ (gC (d:=0) C);have e:((nsB nm f).map λi=>nfF s (ixZ s) i).getD k zA=nfF s (ixZ s) ((nsB nm f).getD k 0):=by
     rw[zoa,List.getElem?_map,zoc C,zoa,zoc C];rfl
    unfold zPY lsF;rw[e,hn f zot,hn _ zot,if_neg (hd f zot _ D)];exact zXW _ _
   rw[hb,ih,zYE]
variable {a b:Pt}
def nm0(i:Nat):List Nat:=([[115,48,46,48],[115,48,46,49],[115,48,46,50],[115,48,46,51],[98,111,116,116,111,109],[116,111,112]]:List (List Nat)).getD i []
def fB1(a b:Pt):List Fc:=[(plD a b (2,false),[[0,2,6,4]],[98,111,116,116,111,109]),(plD a b (1,false),[[0,4,5,1]],[115,48,46,48]),(plD a b (0,true),[[4,6,7,5]],[115,48,46,49]),(plD a b (1,true),[[2,3,7,6]],[115,48,46,50]),(plD a b (0,false),[[0,1,3,2]],[115,48,46,51]),(plD a b (2,true),[[1,5,7,3]],[116,111,112])]
theorem zXD(h:a.x<b.x/\a.y<b.y/\a.z<b.z):nrF (pB0 a b,fB0 a b,[])=fB1 a b:=by
 have C:=zX9 h;obtain⟨h0,h1,h2,h3,G,D⟩:=zXH h _ C;rw[yG3 zow] at h0 h1 h2 h3;have H:∀i,i<6->(nfF (pB0 a b,fB0 a b,[]) (ixZ (pB0 a b,fB0 a b,[])) i).2.2=nm0 i:=λi hi=>by
  have:i=0\/i=1\/i=2\/i=3\/i=4\/i=5:=by omega
  rcases this with rfl|rfl|rfl|rfl|rfl|rfl
  · rw[h0];rfl
  · rw[h1];rfl
  · rw[h2];rfl
  · rw[h3];rfl
  · rw[G];rfl
  · rw[D];rfl
 have J:∀i,i<6->∀k,k<i->¬nm0 i=nm0 k:=by decide
 unfold nrF;rw[if_pos (zID h)]
 show s9 _ 6=_
 rw[zKI H J 6 (Nat.le_refl _),show nsB nm0 6=[4,0,1,2,3,5] by decide];simp only[List.map_cons,List.map_nil];rw[h0,h1,h2,h3,G,D]
 rfl
variable {a b:Pt}
def fB2(a b:Pt):List Fc:=[(plD a b (2,false),[[0,2,6,4]],[122,48]),(plD a b (1,false),[[0,4,5,1]],[121,48]),(plD a b (0,true),[[4,6,7,5]],[120,49]),(plD a b (1,true),[[2,3,7,6]],[121,49]),(plD a b (0,false),[[0,1,3,2]],[120,48]),(plD a b (2,true),[[1,5,7,3]],[122,49])]
theorem yBP(h:eV a b):prP (blL a b) a.z b.z=uB1.map (cU a b)/\prF (blL a b) a.z b.z=fB1 a b:=by
 have C:=zSB h;have D:=zZQ h;rw[(yC9 h).1] at D;unfold prP prF;rw[if_pos D,if_pos D,zL7 C.1 C.2.1];exact⟨zXE C,zXD C⟩
theorem zSE(h:eV a b):blS a b=(uB1.map (cU a b),fB2 a b,[]):=by
 obtain⟨h1,h2⟩:=yBP h;unfold blS blG;rw[yAK,h1,h2];refine congrArg (λz=>(uB1.map (cU a b),z,([]:List En))) ?_;simp only[fB1,fB2,List.map_cons,List.map_nil,rnF];simp[rnN]
variable {a b:Pt}
theorem zK4:mR a b uB1 (2,false) ((fB2 a b).getD 0 zA)/\mR a b uB1 (1,false) ((fB2 a b).getD 1 zA)/\mR a b uB1 (0,true) ((fB2 a b).getD 2 zA)/\mR a b uB1 (1,true) ((fB2 a b).getD 3 zA)/\mR a b uB1 (0,false) ((fB2 a b).getD 4 zA)/\mR a b uB1 (2,true) ((fB2 a b).getD 5 zA):=
 ⟨⟨by decide,1,by decide,rfl,0,2,6,4,rfl,by decide,by decide⟩,⟨by decide,1,by decide,rfl,0,4,5,1,rfl,by decide,by decide⟩,⟨by decide,1,by decide,rfl,4,6,7,5,rfl,by decide,by decide⟩,⟨by decide,1,by decide,rfl,2,3,7,6,rfl,by decide,by decide⟩,⟨by decide,1,by decide,rfl,0,1,3,2,rfl,by decide,by decide⟩,⟨by decide,1,by decide,rfl,1,5,7,3,rfl,by decide,by decide⟩⟩
theorem zAD:vN (uB1.map (cU a b),fB2 a b,[])=[[[0,2,6,4]],[[0,4,5,1]],[[4,6,7,5]],[[2,3,7,6]],[[0,1,3,2]],[[1,5,7,3]]]:=rfl
theorem zVD(h:a.x<b.x/\a.y<b.y/\a.z<b.z):gK (uB1.map (cU a b),fB2 a b,[]):=by
 have g:∀i,i<uB1.length->∀k,k<i->¬uB1.getD i u0=uB1.getD k u0:=by decide +kernel
 obtain⟨h0,h1,h2,h3,J,H⟩:=zK4 (a:=a) (b:=b);refine zLB h (λi k G hi=>g i hi k G) ⟨by decide,show 6<=256 by decide⟩ (λf D=>?_) (λf D=>?_) ?_ ?_
 · have C:f<6:=D
   have:f=0\/f=1\/f=2\/f=3\/f=4\/f=5:=by omega
   rcases this with rfl|rfl|rfl|rfl|rfl|rfl
   · exact⟨_,h0⟩
   · exact⟨_,h1⟩
   · exact⟨_,h2⟩
   · exact⟨_,h3⟩
   · exact⟨_,J⟩
   · exact⟨_,H⟩
 · have C:f<6:=D
   have:f=0\/f=1\/f=2\/f=3\/f=4\/f=5:=by omega
   rcases this with rfl|rfl|rfl|rfl|rfl|rfl
   · show vfP [[0,2,6,4]];decide +kernel
   · show vfP [[0,4,5,1]];decide +kernel
   · show vfP [[4,6,7,5]];decide +kernel
   · show vfP [[2,3,7,6]];decide +kernel
   · show vfP [[0,1,3,2]];decide +kernel
   · show vfP [[1,5,7,3]];decide +kernel
 · rw[zAD];decide +kernel
 · rw[zAD];decide +kernel
variable {a b:Pt}
theorem zQ3(h:a.x<b.x/\a.y<b.y/\a.z<b.z):fR (uB1.map (cU a b),fB2 a b,[])=[0,1,2,3,4,5,6,7]:=by
 rw[zIL h.1 h.2.1 h.2.2,zAD]
 decide +kernel
theorem yCG(h:a.x<b.x/\a.y<b.y/\a.z<b.z):ixZ (uB1.map (cU a b),fB2 a b,[])=[0,1,2,3,4,5,6,7]:=by
 have C:=zQ3 h;unfold ixZ;rw[zP3 C,C]
 show ixB _ 8 8=_
 decide
def fB3(a b:Pt):List Fc:=[(plD a b (0,false),[[0,1,3,2]],[120,48]),(plD a b (0,true),[[4,6,7,5]],[120,49]),(plD a b (1,false),[[0,4,5,1]],[121,48]),(plD a b (1,true),[[2,3,7,6]],[121,49]),(plD a b (2,false),[[0,2,6,4]],[122,48]),(plD a b (2,true),[[1,5,7,3]],[122,49])]
def nm1(i:Nat):List Nat:=([[122,48],[121,48],[120,49],[121,49],[120,48],[122,49]]:List (List Nat)).getD i []
theorem yB2(h:a.x<b.x/\a.y<b.y/\a.z<b.z)(ix:List Int)(hix:ix=[0,1,2,3,4,5,6,7]):∀i,i<6->nfF (uB1.map (cU a b),fB2 a b,[]) ix i=(fB2 a b).getD i zA:=by
 subst hix;obtain⟨h0,h1,h2,h3,D,C⟩:=zK4 (a:=a) (b:=b);intro i hi;have:i=0\/i=1\/i=2\/i=3\/i=4\/i=5:=by omega
 rcases this with rfl|rfl|rfl|rfl|rfl|rfl
 · rw[aE h (F:=fB2 a b) (f:=0) (show 0<6 by decide) h0 _ (x:=[0,2,6,4]) I];rfl
 · rw[aE h (F:=fB2 a b) (f:=1) (show 1<6 by decide) h1 _ (x:=[0,4,5,1]) I];rfl
 · rw[aE h (F:=fB2 a b) (f:=2) (show 2<6 by decide) h2 _ (x:=[4,6,7,5]) I];rfl
 · rw[aE h (F:=fB2 a b) (f:=3) (show 3<6 by decide) h3 _ (x:=[2,3,7,6]) I];rfl
 · rw[aE h (F:=fB2 a b) (f:=4) (show 4<6 by decide) D _ (x:=[0,1,3,2]) I];rfl
 · rw[aE h (F:=fB2 a b) (f:=5) (show 5<6 by decide) C _ (x:=[1,5,7,3]) I];rfl
theorem zQF(h:eV a b):blP a b=uB1.map (cU a b)/\blF a b=fB3 a b:=by
 have D:=zSB h;obtain⟨_,U,O⟩:=yC9 h;rw[U,O,zSE h];have H:=zVD D;have J:=zQ3 D;have G:=yCG D;refine⟨?_,?_⟩
 · unfold nrP
   rw[if_pos H];unfold zXF;rw[J];rfl
 · have C:=yB2 D _ G
   have M:∀i,i<6->(nfF (uB1.map (cU a b),fB2 a b,[]) (ixZ (uB1.map (cU a b),fB2 a b,[])) i).2.2=nm1 i:=λi hi=>by
    rw[C i hi];have:i=0\/i=1\/i=2\/i=3\/i=4\/i=5:=by omega
    rcases this with rfl|rfl|rfl|rfl|rfl|rfl<;>rfl
   unfold nrF;rw[if_pos H]
   show s9 _ 6=_
   rw[zKI M zow 6 (Nat.le_refl _),show nsB nm1 6=[4,2,1,3,0,5] by decide];simp only[List.map_cons,List.map_nil];rw[C 0 zow,C 1 zow,C 2 zow,C 3 zow,C 4 zow,C 5 zow]
   rfl
variable {a b:Pt}
theorem zL8{P:List Pt}(h:0<yR (arZ P 0 1)):cQ P:=zC7 λe=>by
 have:arZ P 0 1=0:=e;rw[this] at h;exact absurd h zow
theorem zQE(h:a.x<b.x/\a.y<b.y/\a.z<b.z){us:List B3}{F:List Fc}(hu:us.length<=512/\F.length<=256)(hF:∀f,f<F.length->∃d,mR a b us d (F.getD f zA)):okS (us.map (cU a b),F,[]):=by
 refine⟨⟨⟨?_,?_⟩,Nat.zero_le _⟩,λf C=>?_,λf C x hx=>?_⟩
 · show(us.map (cU a b)).length<=1000
   rw[List.length_map];omega
 · show F.length<=1000
   omega
 · obtain⟨d,_,c,_,_,i,j,k,l,U,_⟩:=hF f C
   show(F.getD f zA).2.1.length<=16/\∀l,l<(F.getD f zA).2.1.length->((F.getD f zA).2.1.getD l []).length<=64
   rw[U];refine⟨show 1<=16 by decide,λm O=>?_⟩;have G:m=0:=by have:m<1:=O;omega
   subst G
   show 4<=64
   decide
 · obtain⟨d,M⟩:=hF f C
   have D:=zQZ h C M;obtain⟨J,ht,Z,H⟩:=zB6 C M;obtain⟨v1,v2,v3,v4,rfl⟩:∃v1 v2 v3 v4,J=[v1,v2,v3,v4]:=by
    match J,Z with
    |[v1,v2,v3,v4],_=>exact⟨_,_,_,_,rfl⟩
   have e:gR (us.map (cU a b),F,[]) f=[[v1,v2,v3,v4].map λu=>qJ (F.getD f zA).1 (cU a b u)]:=zRP H;unfold zD5 at D;rw[e] at D hx;rw[List.mem_singleton.1 hx];exact zL8 D
theorem zZO(h:eV a b):blH a b:=by
 have C:=zSB h;refine⟨λx hx=>?_,λ_=>?_,?_⟩
 · have:x=bB a b:=List.mem_singleton.1 hx
   rw[this];exact zL8 (zZY C.1 C.2.1)
 · rw[zL7 C.1 C.2.1,oB]
   exact zQE C ⟨by decide,show 6<=256 by decide⟩ (zRW C)
 · rw[zSE h]
   obtain⟨h0,h1,h2,h3,J,H⟩:=zK4 (a:=a) (b:=b);refine zQE C ⟨by decide,show 6<=256 by decide⟩ λf G=>?_;have D:f<6:=G;have:f=0\/f=1\/f=2\/f=3\/f=4\/f=5:=by omega
   rcases this with rfl|rfl|rfl|rfl|rfl|rfl
   · exact⟨_,h0⟩
   · exact⟨_,h1⟩
   · exact⟨_,h2⟩
   · exact⟨_,h3⟩
   · exact⟨_,J⟩
   · exact⟨_,H⟩
def yKS(r:Rat)(n:Int):Prop:=¬((yR r<0\/n<0)\/64<n)
noncomputable def mrLo(r:Rat)(n:Int):Rat:=if yKS r n then zIF r n else 0
noncomputable def mrHi(r:Rat)(n:Int):Rat:=if yKS r n then yKG r n else 0
theorem zAI{a b:Rat}:0<=xT a b↔b<=a:=by unfold xT;grind
abbrev Tri:=T3 Pt
def pnA(s:Sd)(i:Int):Pt:=s.1.getD i.toNat zT
def inR(s:Sd)(i:Int):Prop:=0<=i/\i<s.1.length
def cnT(s:Sd)(l:List Int):Tri:=T3.mk (pnA s (l.getD 0 0)) (pnA s (l.getD 1 0)) (pnA s (l.getD 2 0))
def cnTo(s:Sd)(l:List Int):Nat->Tri
  |0=>T3.mk zT zT zT
  |i+1=>(cnTo s l i).set i (pnA s (l.getD i 0))
def fanT(s:Sd)(l:List Int)(q:Nat):Tri:=T3.mk (pnA s (l.getD 0 0)) (pnA s (l.getD (q+1) 0)) (pnA s (l.getD (q+2) 0))
def fanL(s:Sd)(l:List Int):Nat->List Tri:=uZ (fanT s l)
def yK6(s:Sd)(ls:List (List Int)):Nat->List Tri:=tS λi=>fanL s (ls.getD i []) ((ls.getD i []).length-2)
def yJG(s:Sd)(F:List Fc):Nat->List Tri:=tS λf=>yK6 s (F.getD f zA).2.1 (F.getD f zA).2.1.length
def smT(t:Tri):Pt:=zH2 (zH2 t.x t.y) t.z
def scT(q:Rat)(p:Pt):Pt:=T3.mk (q*p.x) (q*p.y) (q*p.z)
def sumD(l:List Tri):Rat:=l.foldl (λa t=>a+y5 t.x t.y t.z) 0
def sumC(l:List Tri):Pt:=l.foldl (λa t=>zH2 a (scT (y5 t.x t.y t.z) (smT t))) zT
def sumV(l:List Tri):Pt:=l.foldl (λa t=>zH2 a (xQ (uL t.y t.x) (uL t.z t.x))) zT
def yAG(s:Sd):Rat:=sumD (yJG s s.2.1 s.2.1.length)
def cenS(s:Sd):Pt:=sumC (yJG s s.2.1 s.2.1.length)
def arV(s:Sd)(f:Fc):Pt:=scT (1/2) (sumV (yK6 s f.2.1 f.2.1.length))
def lqP(k:Nat)(p:Pt):Prop:=lq p.x<=k/\lq p.y<=k/\lq p.z<=k
def lqT(k:Nat)(t:Tri):Prop:=lqP k t.x/\lqP k t.y/\lqP k t.z
theorem yGK{h:Mem}{cs:List Go.Value}{a b:Pt}{k l:Nat}(r:(rpT (rpQ k)).R h cs a)(e:a=b)(hl:lqP l b):(rpT (rpQ l)).R h cs b:=by
 subst e;obtain⟨x,_,rfl,⟨G,_⟩,y,z,rfl,⟨D,_⟩,⟨C,_⟩⟩:=r;exact⟨x,_,I,⟨G,hl.1⟩,y,z,I,⟨D,hl.2.1⟩,⟨C,hl.2.2⟩⟩
def fcOk(s:Sd)(f:Fc):Prop:=(∀u v,u<f.2.1.length->v<(f.2.1.getD u []).length->inR s ((f.2.1.getD u []).getD v 0))/\(∀u,u<f.2.1.length->(f.2.1.getD u []).length<=1000)/\f.2.1.length<=1000
def fsOk(s:Sd)(F:List Fc):Prop:=(∀i,i<F.length->fcOk s (F.getD i zA))/\F.length<=1000/\(yJG s F F.length).length<=1000
noncomputable def cnS(s:Sd):Pt:=if((4:Int):Rat)*yAG s=0 then zT else scT (((1:Int):Rat)/(((4:Int):Rat)*yAG s)) (cenS s)
def cnO(s:Sd):Prop:=¬((4:Int):Rat)*yAG s=0
noncomputable def arS(s:Sd)(d:Int):Nat->Rat×Rat
  |0=>(0,0)
  |i+1=>((arS s d i).1+mrLo (xH (arV s (s.2.1.getD i zA)) (arV s (s.2.1.getD i zA))) d,(arS s d i).2+mrHi (xH (arV s (s.2.1.getD i zA)) (arV s (s.2.1.getD i zA))) d)
def arOk(s:Sd):Prop:=∀i,i<s.2.1.length->lq (xH (arV s (s.2.1.getD i zA)) (arV s (s.2.1.getD i zA)))<=200
def pI(a b c:Int):Pt:=T3.mk (a:Rat) (b:Rat) (c:Rat)
noncomputable def bkS(a b:Pt):Sd:=(blP a b,blF a b,[])
def lgS(s:Sd):Prop:=∀f,f<s.2.1.length->(s.2.1.getD f zA).2.1.length<=10000/\∀l,l<(s.2.1.getD f zA).2.1.length->((s.2.1.getD f zA).2.1.getD l []).length<=10000
def msOk(s:Sd):Prop:=(nmA s/\lgS s)/\fsOk s s.2.1/\arOk s
structure SaneF:Prop where
 h:eV (pI 0 0 0) (pI 2 2 2)->blH (pI 0 0 0) (pI 2 2 2)
 ok:msOk (bkS (pI 0 0 0) (pI 2 2 2))
 vol:yAG (bkS (pI 0 0 0) (pI 2 2 2))/((6:Int):Rat)=((8:Int):Rat)
 cen:cnS (bkS (pI 0 0 0) (pI 2 2 2))=pI 1 1 1/\cnO (bkS (pI 0 0 0) (pI 2 2 2))
 area:arS (bkS (pI 0 0 0) (pI 2 2 2)) 0 (bkS (pI 0 0 0) (pI 2 2 2)).2.1.length=(((24:Int):Rat),((24:Int):Rat))
variable {a b:Pt}
def bxS(a b:Pt):Sd:=(uB1.map (cU a b),fB3 a b,[])
theorem zSC(h:eV a b):bkS a b=bxS a b:=by
 obtain⟨h1,h2⟩:=zQF h;unfold bkS bxS;rw[h1,h2]
def cC(a b:Pt)(i:Nat):Pt:=cU a b (uB1.getD i u0)
noncomputable def whF(s:Sd)(f:Nat)(q:Pt):Int:=whZ (gR s f) (pr (qJ (s.2.1.getD f zA).1 q) 0 1) 0 1
def cnF(s:Sd)(d:Pt)(f:Nat):Rat:=xH (s.2.1.getD f zA).1.1 d
def hnF(s:Sd)(p:Pt)(f:Nat):Rat:=(s.2.1.getD f zA).1.2-xH (s.2.1.getD f zA).1.1 p
def bM(p d:Pt)(t:Rat):Pt:=zH2 p (scT t d)
def skP(s:Sd)(p d:Pt)(f:Nat):Prop:=yR (cnF s d f)*yR (hnF s p f)<=0
noncomputable def crE(s:Sd)(p d:Pt)(f:Nat):Int:=if skP s p d f then 0 else if whF s f (bM p d (hnF s p f/cnF s d f))=1 then(if 0<cnF s d f then 1 else -1) else 0
noncomputable def crS(s:Sd)(p d:Pt):Nat->Int
  |0=>0
  |n+1=>crS s p d n+crE s p d n
theorem j7{c h:Rat}:yR c*yR h<=0↔¬((0<c/\0<h)\/(c<0/\h<0)):=by
 have r1:=yX c;have r2:=yX h;have J:=dB (q:=c);have H:=jQ (q:=c);have G:=dB (q:=h);have D:=jQ (q:=h);have C:yR c= -1\/yR c=0\/yR c=1:=by omega
 have c2:yR h= -1\/yR h=0\/yR h=1:=by omega
 rw[<-J,<-H,<-G,<-D]
 rcases C with e1|e1|e1<;>rcases c2 with e2|e2|e2<;>rw[e1,e2]<;>simp
theorem zT6(l:List Pt)(p:P2)(i j:Nat):fG l p i j=0\/fG l p i j=1\/fG l p i j= -1:=by
 unfold fG
 split
 · exact .inl I
 · split
   · exact .inr (.inl I)
   · exact .inr (.inr I)
theorem yEP(l:List Pt)(p:P2)(i j:Nat):whZ [l] p i j=fG l p i j:=by
 have e:∀m,m<[l].length->[l].getD m []=l:=λm C=>by
  have:m=0:=by have:m<1:=C;omega
  subst this;rfl
 unfold whZ
 rcases zT6 l p i j with h|h|h
 · rw[if_pos ⟨0,Nat.zero_lt_succ _,h⟩,h]
 · rw[if_neg (λ⟨m,C,hz⟩=>by rw[e m C,h] at hz;exact absurd hz zow)]
   show(if fG l p i j=1 then _ else _)=_
   rw[if_pos h,h];rfl
 · rw[if_neg (λ⟨m,C,hz⟩=>by rw[e m C,h] at hz;exact absurd hz zow)]
   show(if fG l p i j=1 then _ else _)=_
   rw[if_neg (by rw[h];decide),h];rfl
section
variable {a b:Pt}
def sI(a b q:Pt)(v:Nat):Prop:=a.at v<q.at v/\q.at v<b.at v
def kI(a b q:Pt)(v:Nat):Prop:=a.at v<=q.at v/\q.at v<=b.at v
theorem yGM{d:Dir}{c o:Rat}(hd:d.1<3)(hc:0<c){vs:List B3}(h4:vs.length=4)(ht:zE1 d vs=true):
 yGN (vs.map λu=>qJ (dN d c,o) (cU a b u)) 0 1 (a.at (dI d)) (a.at (dJ d)) (b.at (dI d)) (b.at (dJ d)):=by
 have e0:∀x y:Rat,x+(y-x)*((0:Int):Rat)=x:=λx y=>by have:((0:Int):Rat)=0:=rfl;rw[this];grind
 have D:∀x y:Rat,x+(y-x)*((1:Int):Rat)=y:=λx y=>by have:((1:Int):Rat)=1:=rfl;rw[this];grind
 obtain⟨J,v1,v2,v3,rfl⟩:∃J v1 v2 v3,vs=[J,v1,v2,v3]:=by
  match vs,h4 with
  |[_,_,_,_],_=>exact⟨_,_,_,_,rfl⟩
 unfold zE1 at ht;simp only[Bool.and_eq_true,Bool.or_eq_true,decide_eq_true_iff,List.map_cons,List.map_nil,List.cons.injEq,and_true] at ht;have C:∀u:B3,pr (qJ (dN d c,o) (cU a b u)) 0 1=(a.at (dI d)+(b.at (dI d)-a.at (dI d))*(((pI2 d u).1:Int):Rat),a.at (dJ d)+(b.at (dJ d)-a.at (dJ d))*(((pI2 d u).2:Int):Rat)):=λu=>by
  rw[zRS hd hc];rfl
 have G:∀m:Nat,m<4->m=0\/m=1\/m=2\/m=3:=λm h=>by omega
 refine⟨I,?_⟩
 rcases ht.2 with((⟨q0,q1,q2,q3⟩|⟨q0,q1,q2,q3⟩)|⟨q0,q1,q2,q3⟩)|⟨q0,q1,q2,q3⟩
 · refine⟨0,by decide,λm H=>?_⟩
   rcases G m H with rfl|rfl|rfl|rfl
   · refine(C J).trans ?_;rw[q0];simp only[e0,D];rfl
   · refine(C v1).trans ?_;rw[q1];simp only[e0,D];rfl
   · refine(C v2).trans ?_;rw[q2];simp only[e0,D];rfl
   · refine(C v3).trans ?_;rw[q3];simp only[e0,D];rfl
 · refine⟨1,by decide,λm H=>?_⟩
   rcases G m H with rfl|rfl|rfl|rfl
   · refine(C J).trans ?_;rw[q0];simp only[e0,D];rfl
   · refine(C v1).trans ?_;rw[q1];simp only[e0,D];rfl
   · refine(C v2).trans ?_;rw[q2];simp only[e0,D];rfl
   · refine(C v3).trans ?_;rw[q3];simp only[e0,D];rfl
 · refine⟨2,by decide,λm H=>?_⟩
   rcases G m H with rfl|rfl|rfl|rfl
   · refine(C J).trans ?_;rw[q0];simp only[e0,D];rfl
   · refine(C v1).trans ?_;rw[q1];simp only[e0,D];rfl
   · refine(C v2).trans ?_;rw[q2];simp only[e0,D];rfl
   · refine(C v3).trans ?_;rw[q3];simp only[e0,D];rfl
 · refine⟨3,by decide,λm H=>?_⟩
   rcases G m H with rfl|rfl|rfl|rfl
   · refine(C J).trans ?_;rw[q0];simp only[e0,D];rfl
   · refine(C v1).trans ?_;rw[q1];simp only[e0,D];rfl
   · refine(C v2).trans ?_;rw[q2];simp only[e0,D];rfl
   · refine(C v3).trans ?_;rw[q3];simp only[e0,D];rfl
def gD(f:Nat):Dir:=(f/2,f%2==1)
theorem dX{f:Nat}(hf:f<6):mR a b uB1 (gD f) ((fB3 a b).getD f zA)/\((fB3 a b).getD f zA).1=plD a b (gD f):=by
 have:f=0\/f=1\/f=2\/f=3\/f=4\/f=5:=by omega
 have h1:(0:Rat)<1:=by decide
 rcases this with rfl|rfl|rfl|rfl|rfl|rfl
 · exact⟨⟨by decide,1,h1,I,0,1,3,2,I,⟨by decide,by decide,by decide,by decide⟩,by decide⟩,I⟩
 · exact⟨⟨by decide,1,h1,I,4,6,7,5,I,⟨by decide,by decide,by decide,by decide⟩,by decide⟩,I⟩
 · exact⟨⟨by decide,1,h1,I,0,4,5,1,I,⟨by decide,by decide,by decide,by decide⟩,by decide⟩,I⟩
 · exact⟨⟨by decide,1,h1,I,2,3,7,6,I,⟨by decide,by decide,by decide,by decide⟩,by decide⟩,I⟩
 · exact⟨⟨by decide,1,h1,I,0,2,6,4,I,⟨by decide,by decide,by decide,by decide⟩,by decide⟩,I⟩
 · exact⟨⟨by decide,1,h1,I,1,5,7,3,I,⟨by decide,by decide,by decide,by decide⟩,by decide⟩,I⟩
theorem yCR{f:Nat}(hf:f<6):(gD f).1<3:=by show f/2<3;omega
theorem yDH(h:∀i,a.at i<b.at i){f:Nat}(hf:f<6)(q:Pt):
 whF (bxS a b) f q=if(kI a b q (dI (gD f))/\kI a b q (dJ (gD f)))/\¬(sI a b q (dI (gD f))/\sI a b q (dJ (gD f))) then 0 else if sI a b q (dI (gD f))/\sI a b q (dJ (gD f)) then 1 else -1:=by
 obtain⟨hb,J⟩:=dX (a:=a) (b:=b) hf;obtain⟨vs,ht,h4,Z⟩:=zB6 (F:=fB3 a b) hf hb;obtain⟨v1,v2,v3,v4,rfl⟩:∃v1 v2 v3 v4,vs=[v1,v2,v3,v4]:=by
  match vs,h4 with
  |[_,_,_,_],_=>exact⟨_,_,_,_,rfl⟩
 have e:gR (bxS a b) f=[[v1,v2,v3,v4].map λu=>qJ (plD a b (gD f)) (cU a b u)]:=by
  have:=zRP (s:=bxS a b) (f:=f) Z;rw[this]
  show[[qJ ((fB3 a b).getD f zA).1 _,qJ ((fB3 a b).getD f zA).1 _,qJ ((fB3 a b).getD f zA).1 _,qJ ((fB3 a b).getD f zA).1 _]]=_
  rw[J];rfl
 have hd:=yCR hf;have h1:(0:Rat)<1:=by decide
 have M:=zLC (d:=gD f) hd h1;have hq:pr (qJ ((bxS a b).2.1.getD f zA).1 q) 0 1=(q.at (dI (gD f)),q.at (dJ (gD f))):=by
  show pr (qJ ((fB3 a b).getD f zA).1 q) 0 1=_
  rw[J];unfold qJ plD;rw[M.1,M.2.1];rfl
 have O:yGN ([v1,v2,v3,v4].map λu=>qJ (plD a b (gD f)) (cU a b u)) 0 1 (a.at (dI (gD f))) (a.at (dJ (gD f))) (b.at (dI (gD f))) (b.at (dJ (gD f))):=yGM hd h1 h4 ht;unfold whF;rw[e,hq,yEP,zYB (h _) (h _) O];have g1:bdP (a.at (dI (gD f))) (a.at (dJ (gD f))) (b.at (dI (gD f))) (b.at (dJ (gD f))) (q.at (dI (gD f)),q.at (dJ (gD f)))↔(kI a b q (dI (gD f))/\kI a b q (dJ (gD f)))/\¬(sI a b q (dI (gD f))/\sI a b q (dJ (gD f))):=by
  unfold bdP kI sI;constructor
  · rintro⟨⟨H,G,D,C⟩,U⟩
    exact⟨⟨⟨H,G⟩,D,C⟩,λe=>U ⟨e.1.1,e.1.2,e.2.1,e.2.2⟩⟩
  · rintro⟨⟨⟨H,G⟩,D,C⟩,U⟩
    exact⟨⟨H,G,D,C⟩,λe=>U ⟨⟨e.1,e.2.1⟩,e.2.2.1,e.2.2.2⟩⟩
 have g2:zP6 (a.at (dI (gD f))) (a.at (dJ (gD f))) (b.at (dI (gD f))) (b.at (dJ (gD f))) (q.at (dI (gD f)),q.at (dJ (gD f)))↔sI a b q (dI (gD f))/\sI a b q (dJ (gD f)):=by
  unfold zP6 sI;constructor
  · rintro⟨H,G,D,C⟩
    exact⟨⟨H,G⟩,D,C⟩
  · rintro⟨⟨H,G⟩,D,C⟩
    exact⟨H,G,D,C⟩
 by_cases k1:(kI a b q (dI (gD f))/\kI a b q (dJ (gD f)))/\¬(sI a b q (dI (gD f))/\sI a b q (dJ (gD f)))
 · rw[if_pos (g1.2 k1),if_pos k1]
 · rw[if_neg λe=>k1 (g1.1 e),if_neg k1]
   by_cases k2:sI a b q (dI (gD f))/\sI a b q (dJ (gD f))
   · rw[if_pos (g2.2 k2),if_pos k2]
   · rw[if_neg λe=>k2 (g2.1 e),if_neg k2]
end
def nQ(p A B v:Pt):Prop:=if xQ (uL A p) (uL B p)=zT then xQ (uL B A) v=zT else y5 (uL A p) (uL B p) v=0
def vK(k:Int):Pt:=T3.mk ((1:Int):Rat) (k:Rat) ((k*k:Int):Rat)
theorem zI9(a b:Pt):xQ a b=zT↔xQ b a=zT:=by
 unfold xQ;rw[tU,tU];constructor<;>rintro⟨h1,h2,h3⟩<;>simp only at h1 h2 h3 ⊢<;>exact⟨by grind,by grind,by grind⟩
theorem zND{p A B v:Pt}(h:nQ p A B v):nQ p B A v:=by
 unfold nQ at *
 by_cases hc:xQ (uL A p) (uL B p)=zT
 · rw[if_pos hc] at h
   rw[if_pos ((zI9 _ _).1 hc)];unfold xQ uL at *;rw[tU] at *;obtain⟨h1,h2,h3⟩:=h;simp only at h1 h2 h3 ⊢;exact⟨by grind,by grind,by grind⟩
 · rw[if_neg hc] at h
   rw[if_neg λe=>hc ((zI9 _ _).2 e)];unfold y5 xH xQ uL at *;simp only at h ⊢;grind
theorem zOQ{j k:Nat}(h:j≠k):((j:Int):Rat)≠((k:Int):Rat):=λe=>h (by have:=Rat.intCast_inj.1 e;omega)
theorem yK3{p A B:Pt}(hAB:A≠B){i j k:Nat}(h1:i≠j)(h2:i≠k)(h3:j≠k)(hi:nQ p A B (vK i))(hj:nQ p A B (vK j))(hk:nQ p A B (vK k)):False:=by
 have D:=zOQ h1;have e2:=zOQ h2;have Z:=zOQ h3;have H:((1:Int):Rat)=1:=I;have G:∀n:Nat,((((n:Int)*(n:Int):Int)):Rat)=((n:Int):Rat)*((n:Int):Rat):=λn=>Rat.intCast_mul _ _;unfold nQ at *
 by_cases hc:xQ (uL A p) (uL B p)=zT
 · rw[if_pos hc] at hi hj
   refine hAB ?_;unfold vK at hi hj;rw[G,H] at hi hj;generalize ((i:Int):Rat)=x at *;generalize ((j:Int):Rat)=y at *;unfold xQ uL at hi hj;rw[tU] at hi hj ⊢;obtain⟨a1,M,J⟩:=hi;obtain⟨b1,b2,b3⟩:=hj;simp only at a1 M J b1 b2 b3;have g:(B.x-A.x)*(x-y)=0:=by grind
   have C:B.x-A.x=0:=by
    rcases zoe.1 g with g|g
    · exact g
    · exact absurd zo1 D
   rw[C] at M J;exact⟨by grind,by grind,by grind⟩
 · rw[if_neg hc] at hi hj hk
   refine hc ?_;unfold vK at hi hj hk;rw[G,H] at hi hj hk;generalize ((i:Int):Rat)=x at *;generalize ((j:Int):Rat)=y at *;generalize ((k:Int):Rat)=z at *;have e:∀t:Rat,y5 (uL A p) (uL B p) (T3.mk 1 t (t*t))=(xQ (uL A p) (uL B p)).x+(xQ (uL A p) (uL B p)).y*t+(xQ (uL A p) (uL B p)).z*(t*t):=λt=>by
    unfold y5 xH xQ;simp only;grind
   rw[e] at hi hj hk;generalize xQ (uL A p) (uL B p)=n at *;have C:(x-y)*(n.y+n.z*(x+y))=0:=by grind
   have U:(x-z)*(n.y+n.z*(x+z))=0:=by grind
   have m1:n.y+n.z*(x+y)=0:=by
    rcases zoe.1 C with g|g
    · exact absurd zo1 D
    · exact g
   have m2:n.y+n.z*(x+z)=0:=by
    rcases zoe.1 U with g|g
    · exact absurd zo1 e2
    · exact g
   have g3:n.z*(y-z)=0:=by grind
   have O:n.z=0:=by
    rcases zoe.1 g3 with g|g
    · exact g
    · exact absurd zo1 Z
   rw[tU];exact⟨by grind,by grind,O⟩
theorem zDZ{α:Type}(q:α->Bool):∀l:List α,(l.filter q).length+(l.filter λx=>!q x).length=l.length
  |[]=>rfl
  |x::l=>by
   have ih:=zDZ q l;rw[List.filter_cons,List.filter_cons]
   cases h:q x<;>simp<;>omega
theorem yE3{q:Nat->Prop}{l:List Nat}(hn:l.Nodup)(hq:∀x,x∈l->q x)(h:∀i j k,i≠j->i≠k->j≠k->q i->q j->q k->False):l.length<=2:=by
 match l,hn with
 |[],_=>simp
 |[_],_=>simp
 |[_,_],_=>simp
 |a::b::c::r,hn=>
  simp only[List.nodup_cons,List.mem_cons,not_or] at hn;exact(h a b c hn.1.1 hn.1.2.1 hn.2.1.1 (hq a zo2) (hq b zo2) (hq c zo2)).elim
theorem zWM{α:Type}(bad:α->Nat->Prop):∀(E:List α) (K:List Nat),K.Nodup->2*E.length<K.length->(∀e,e∈E->∀i j k,i≠j->i≠k->j≠k->bad e i->bad e j->bad e k->False)->∃k,k∈K/\∀e,e∈E->¬bad e k
  |[],K,_,hl,_=>by
   match K,hl with
   |k::K,_=>exact⟨k,by simp,λe he=>by cases he⟩
  |e::E,K,hn,hl,h3=>by
   have hb:=zDZ (λk=>decide (bad e k)) K;have h2:(K.filter λk=>decide (bad e k)).length<=2:=yE3 (q:=bad e) (hn.filter _) (λx hx=>by simpa using(List.mem_filter.1 hx).2) (h3 e (.head _));rw[lC] at hl;obtain⟨k,hk,hg⟩:=zWM bad E (K.filter λk=>!decide (bad e k)) (hn.filter _) zot λx hx=>h3 x (.tail _ hx);have hm:=List.mem_filter.1 hk;refine⟨k,hm.1,λx hx=>?_⟩
   rcases List.mem_cons.1 hx with rfl|hx
   · simpa using hm.2
   · exact hg x hx
theorem zX5{q:Nat->Prop}:∀n,q n->∃k,k<=n/\q k/\∀j,j<k->¬q j:=by
 intro n
 induction n using Nat.strongRecOn with
 |_ n ih=>
  intro hn
  by_cases h:∃j,j<n/\q j
  · obtain⟨j,hj,hq⟩:=h
    obtain⟨k,h1,h2,h3⟩:=ih j hj hq;exact⟨k,by omega,h2,h3⟩
  · exact⟨n,Nat.le_refl n,hn,λj hj hq=>h ⟨j,hj,hq⟩⟩
theorem zGP{q:Nat->Prop}(h:∃n,q n):∃k,q k/\∀j,j<k->¬q j:=by
 obtain⟨n,C⟩:=h;obtain⟨k,_,h2⟩:=zX5 n C;exact⟨k,h2⟩
noncomputable def nO(q:Nat->Prop):Nat:=if h:∃n,q n then Classical.choose (zGP h) else 0
theorem oR{q:Nat->Prop}{n:Nat}(h:q n):nO q<=n/\q (nO q)/\∀j,j<nO q->¬q j:=by
 have G:∃n,q n:=⟨n,h⟩;have C:=Classical.choose_spec (zGP G);have e:nO q=Classical.choose (zGP G):=dif_pos G;rw[e];exact⟨Nat.not_lt.1 λD=>C.2 n D h,C.1,C.2⟩
theorem zRR{pl:Pl}{l:List Pt}{m:Nat}(h:m<l.length):gp (flA pl l l.length) m=qJ pl (gp l m):=uT (λi=>qJ pl (gp l i)) (T3.mk (0:Rat) 0 0) h
theorem zYV(pl:Pl)(l:List Pt)(p:Pt):fG (flA pl l l.length) (pr (qJ pl p) 0 1) 0 1=fG l (pr p (axI pl.1) (axJ pl.1)) (axI pl.1) (axJ pl.1):=by
 have hl:(flA pl l l.length).length=l.length:=yY _ _;have eA:∀m,m<l.length->vV (flA pl l l.length) 0 1 m=vV l (axI pl.1) (axJ pl.1) m:=λm h=>by
  unfold vV;rw[zRR h];rfl
 have eB:∀m,m<l.length->vS (flA pl l l.length) 0 1 m=vS l (axI pl.1) (axJ pl.1) m:=λm h=>by
  unfold vS;rw[hl,zRR (Nat.mod_lt _ zot)];rfl
 have eo:∀m,m<=l.length->kC (flA pl l l.length) (pr (qJ pl p) 0 1) 0 1 m=kC l (pr p (axI pl.1) (axJ pl.1)) (axI pl.1) (axJ pl.1) m:=by
  intro m
  induction m with
  |zero=>intro _;rfl
  |succ m ih=>
   intro h
   show((jP _ _ _/\¬kC _ _ _ _ m)\/(¬jP _ _ _/\kC _ _ _ _ m))=((jP _ _ _/\¬kC _ _ _ _ m)\/(¬jP _ _ _/\kC _ _ _ _ m))
   rw[ih zot,eA m zot,eB m zot];rfl
 have ee:(∃m,m<(flA pl l l.length).length/\onS (vV (flA pl l l.length) 0 1 m) (vS (flA pl l l.length) 0 1 m) (pr (qJ pl p) 0 1))=(∃m,m<l.length/\onS (vV l (axI pl.1) (axJ pl.1) m) (vS l (axI pl.1) (axJ pl.1) m) (pr p (axI pl.1) (axJ pl.1))):=by
  refine propext ⟨?_,?_⟩
  · rintro⟨m,h,k⟩
    rw[hl] at h;rw[eA m h,eB m h] at k;exact⟨m,h,k⟩
  · rintro⟨m,h,k⟩
    refine⟨m,by rw[hl];exact h,?_⟩;rw[eA m h,eB m h];exact k
 have eo':=eo l.length (Nat.le_refl _);rw[<-hl] at eo';unfold fG
 by_cases h:∃m,m<l.length/\onS (vV l (axI pl.1) (axJ pl.1) m) (vS l (axI pl.1) (axJ pl.1) m) (pr p (axI pl.1) (axJ pl.1))
 · rw[if_pos (ee.mpr h),if_pos h]
 · rw[if_neg λe=>h (ee.mp e),if_neg h]
   rw[hl] at eo' ⊢
   by_cases h2:kC l (pr p (axI pl.1) (axJ pl.1)) (axI pl.1) (axJ pl.1) l.length
   · rw[if_pos (eo'.mpr h2),if_pos h2]
   · rw[if_neg λe=>h2 (eo'.mp e),if_neg h2]
theorem zRQ(s:Sd)(f:Nat)(p:Pt):whF s f p=whZ (vT s f) (pr p (axI (s.2.1.getD f zA).1.1) (axJ (s.2.1.getD f zA).1.1)) (axI (s.2.1.getD f zA).1.1) (axJ (s.2.1.getD f zA).1.1):=by
 unfold whF;generalize he:(s.2.1.getD f zA).1=pl;have hl:(gR s f).length=(vT s f).length:=(dW s f).1;have hg:∀m,m<(vT s f).length->(gR s f).getD m []=flA pl (gl (vT s f) m) (gl (vT s f) m).length:=λm h=>by
  subst he;exact uT (λi=>flA (s.2.1.getD f zA).1 (gl (vT s f) i) (gl (vT s f) i).length) [] h
 have hi:∀m,m<(vT s f).length->fG ((gR s f).getD m []) (pr (qJ pl p) 0 1) 0 1=fG ((vT s f).getD m []) (pr p (axI pl.1) (axJ pl.1)) (axI pl.1) (axJ pl.1):=λm h=>by
  rw[hg m h];exact zYV pl _ p
 have ht:∀m,m<=(vT s f).length->j5 (gR s f) (pr (qJ pl p) 0 1) 0 1 m=j5 (vT s f) (pr p (axI pl.1) (axJ pl.1)) (axI pl.1) (axJ pl.1) m:=by
  intro m
  induction m with
  |zero=>intro _;rfl
  |succ m ih=>
   intro h
   show(if _ then _ else _)=(if _ then _ else _)
   rw[ih zot,hi m zot]
 have ee:(∃m,m<(gR s f).length/\fG ((gR s f).getD m []) (pr (qJ pl p) 0 1) 0 1=0)=(∃m,m<(vT s f).length/\fG ((vT s f).getD m []) (pr p (axI pl.1) (axJ pl.1)) (axI pl.1) (axJ pl.1)=0):=by
  refine propext ⟨?_,?_⟩
  · rintro⟨m,h,k⟩
    rw[hl] at h;rw[hi m h] at k;exact⟨m,h,k⟩
  · rintro⟨m,h,k⟩
    refine⟨m,by rw[hl];exact h,?_⟩;rw[hi m h];exact k
 unfold whZ
 by_cases h:∃m,m<(vT s f).length/\fG ((vT s f).getD m []) (pr p (axI pl.1) (axJ pl.1)) (axI pl.1) (axJ pl.1)=0
 · rw[if_pos (ee.mpr h),if_pos h]
 · rw[if_neg λe=>h (ee.mp e),if_neg h,hl]
   exact ht _ (Nat.le_refl _)
theorem yDG(L:List (List Pt))(p:P2)(i j:Nat):∀m,j5 L p i j m≠0
  |0=>by unfold j5;decide
  |m+1=>by
   have:=yDG L p i j m;unfold j5
   split<;>omega
theorem yLK{N A B q:Pt}{D:Rat}(hN:¬N.at (axK N)=0)(hA:xH N A=D)(hB:xH N B=D)(hq:xH N q=D)(hc:cr (pr A (axI N) (axJ N)) (pr B (axI N) (axJ N)) (pr q (axI N) (axJ N))=0):xQ (uL B A) (uL q A)=zT:=by
 obtain⟨J,H,G⟩:=N;obtain⟨a1,a2,a3⟩:=A;obtain⟨b1,b2,b3⟩:=B;obtain⟨Z,U,O⟩:=q;unfold xH at hA hB hq;unfold xQ uL;rw[tU];simp only at hA hB hq ⊢;have C:∀M x:Rat,M≠0->M*x=0->x=0:=λM x h e=>(zoe.1 e).resolve_left h
 rcases zSG ⟨J,H,G⟩ with⟨e1,e2,e3⟩|⟨e1,e2,e3⟩|⟨e1,e2,e3⟩|⟨e1,e2,e3⟩|⟨e1,e2,e3⟩|⟨e1,e2,e3⟩<;>rw[e1,e2] at hc<;>rw[e3] at hN<;>simp only[cr,pr,T3.at] at hc hN
 · exact⟨C G _ hN zo1,C G _ hN zo1,by grind⟩
 · exact⟨C G _ hN zo1,C G _ hN zo1,by grind⟩
 · exact⟨C H _ hN zo1,by grind,C H _ hN zo1⟩
 · exact⟨C H _ hN zo1,by grind,C H _ hN zo1⟩
 · exact⟨by grind,C J _ hN zo1,C J _ hN zo1⟩
 · exact⟨by grind,C J _ hN zo1,C J _ hN zo1⟩
theorem yHW{p d A B:Pt}{t:Rat}(ht:t≠0)(h:xQ (uL B A) (uL (bM p d t) A)=zT):nQ p A B d:=by
 obtain⟨M,J,H⟩:=p;obtain⟨a1,a2,a3⟩:=A;obtain⟨b1,b2,b3⟩:=B;obtain⟨Z,U,O⟩:=d;have C:∀x:Rat,t*x=0->x=0:=λx e=>(zoe.1 e).resolve_left ht;unfold nQ;unfold xQ uL bM zH2 scT at h;rw[tU] at h;obtain⟨h1,h2,h3⟩:=h;simp only at h1 h2 h3
 split
 · rename_i hc
   unfold xQ uL at *;rw[tU] at *;obtain⟨G,c2,D⟩:=hc;simp only at G c2 D ⊢;exact⟨C _ zo1,C _ zo1,C _ zo1⟩
 · refine C _ ?_
   unfold y5 xH xQ uL;simp only;grind
def zK8(s:Sd)(p v:Pt):Prop:=∀f,f<s.2.1.length->∀l,l<(vT s f).length->∀k,k<(gl (vT s f) l).length->gp (gl (vT s f) l) k≠gp (gl (vT s f) l) ((k+1)%(gl (vT s f) l).length)->¬nQ p (gp (gl (vT s f) l) k) (gp (gl (vT s f) l) ((k+1)%(gl (vT s f) l).length)) v
def yD0(s:Sd):Prop:=∀f,f<s.2.1.length->¬(s.2.1.getD f zA).1.1=zT/\∀l,l<(vT s f).length->∀k,k<(gl (vT s f) l).length->xH (s.2.1.getD f zA).1.1 (gp (gl (vT s f) l) k)=(s.2.1.getD f zA).1.2/\gp (gl (vT s f) l) k≠gp (gl (vT s f) l) ((k+1)%(gl (vT s f) l).length)
theorem yCW(N p d:Pt)(t:Rat):xH N (bM p d t)=xH N p+t*xH N d:=by
 unfold xH bM zH2 scT;simp only;grind
theorem yAE{L:List (List Pt)}{p:P2}{i j:Nat}(h:whZ L p i j=0):∃m,m<L.length/\∃k,k<(gl L m).length/\onS (vV (gl L m) i j k) (vS (gl L m) i j k) p:=by
 unfold whZ at h
 split at h
 · rename_i h1
   obtain⟨m,D,hz⟩:=h1;unfold fG at hz
   split at hz
   · rename_i h2
     obtain⟨k,G,C⟩:=h2;exact⟨m,D,k,G,C⟩
   · split at hz<;>exact absurd hz zow
 · exact absurd h (yDG _ _ _ _ _)
theorem zXG{s:Sd}{p d:Pt}{f:Nat}(hs:yD0 s)(hf:f<s.2.1.length)(hc:zK8 s p d)(hk:¬skP s p d f):whF s f (bM p d (hnF s p f/cnF s d f))≠0:=by
 intro h0;rw[zRQ] at h0;obtain⟨l,H,k,D,O⟩:=yAE h0;obtain⟨hz,C⟩:=hs f hf;have U:cnF s d f≠0:=λe=>hk (by unfold skP;rw[j7,e];grind);have J:hnF s p f/cnF s d f≠0:=λe=>hk (by
  have:hnF s p f=0:=by
   have h1:hnF s p f=hnF s p f/cnF s d f*cnF s d f:=by generalize cnF s d f=c at *;grind
   rw[e] at h1;grind
  unfold skP;rw[j7,this];grind)
 have M:xH (s.2.1.getD f zA).1.1 (bM p d (hnF s p f/cnF s d f))=(s.2.1.getD f zA).1.2:=by
  rw[yCW];have h1:hnF s p f/cnF s d f*cnF s d f=hnF s p f:=by generalize cnF s d f=c at *;grind
  have h2:xH (s.2.1.getD f zA).1.1 d=cnF s d f:=I;rw[h2,h1];unfold hnF;grind
 obtain⟨hA,G⟩:=C l H k D;have hB:=(C l H ((k+1)%(gl (vT s f) l).length) (Nat.mod_lt _ zot)).1;have Z:¬(s.2.1.getD f zA).1.1.at (axK (s.2.1.getD f zA).1.1)=0:=λe=>hz ((zSF _).1 e);exact hc f hf l H k D G (yHW J (yLK Z hA hB M O.2.2))
abbrev PIr:=Int×Int
def mmI(a b:Int):PIr:=(min a b,max a b)
def ptI(P:List Pt)(i:Int):Pt:=gp P i.toNat
noncomputable def sxE(P:List Pt)(x:List Int)(S:List PIr):Nat->List PIr
  |0=>S
  |k+1=>if mmI (x.getD k 0) (x.getD ((k+1)%x.length) 0)∈sxE P x S k\/ptI P (x.getD k 0)=ptI P (x.getD ((k+1)%x.length) 0) then sxE P x S k else sxE P x S k++[mmI (x.getD k 0) (x.getD ((k+1)%x.length) 0)]
noncomputable def slE(P:List Pt)(L:List (List Int))(S:List PIr):Nat->List PIr
  |0=>S
  |l+1=>sxE P (L.getD l []) (slE P L S l) (L.getD l []).length
noncomputable def sfE(s:Sd):Nat->List PIr
  |0=>[]
  |f+1=>slE s.1 (s.2.1.getD f zA).2.1 (sfE s f) (s.2.1.getD f zA).2.1.length
def ptP(P:List Pt)(e:PIr):Pt×Pt:=(ptI P e.1,ptI P e.2)
def isE(P:List Pt)(x:List Int)(n:Nat)(e:PIr):Prop:=∃k,k<n/\e=mmI (x.getD k 0) (x.getD ((k+1)%x.length) 0)/\ptI P (x.getD k 0)≠ptI P (x.getD ((k+1)%x.length) 0)
theorem zU7(P:List Pt)(x:List Int)(S:List PIr)(e:PIr):∀n,e∈sxE P x S n↔e∈S\/isE P x n e
  |0=>⟨.inl,λh=>h.elim id λ⟨_,h,_⟩=>absurd h (Nat.not_lt_zero _)⟩
  |n+1=>by
   have ih:=zU7 P x S e n;have hs:isE P x (n+1) e↔isE P x n e\/(e=mmI (x.getD n 0) (x.getD ((n+1)%x.length) 0)/\ptI P (x.getD n 0)≠ptI P (x.getD ((n+1)%x.length) 0)):=by
    constructor
    · rintro⟨k,C,h⟩
      rcases Nat.lt_succ_iff_lt_or_eq.1 C with h1|rfl
      · exact .inl ⟨k,h1,h⟩
      · exact .inr h
    · rintro(⟨k,C,h⟩|h)
      · exact⟨k,by omega,h⟩
      · exact⟨n,by omega,h⟩
   unfold sxE
   by_cases hc:mmI (x.getD n 0) (x.getD ((n+1)%x.length) 0)∈sxE P x S n\/ptI P (x.getD n 0)=ptI P (x.getD ((n+1)%x.length) 0)
   · rw[if_pos hc,ih,hs]
     constructor
     · rintro(h|h)
       · exact .inl h
       · exact .inr (.inl h)
     · rintro(h|h|⟨h1,h2⟩)
       · exact .inl h
       · exact .inr h
       · rcases hc with hc|hc
         · rw[<-h1] at hc
           exact ih.1 hc
         · exact absurd hc h2
   · rw[if_neg hc,List.mem_append,ih,hs,List.mem_singleton]
     constructor
     · rintro((h|h)|h)
       · exact .inl h
       · exact .inr (.inl h)
       · exact .inr (.inr ⟨h,λe=>hc (.inr e)⟩)
     · rintro(h|h|⟨h1,_⟩)
       · exact .inl (.inl h)
       · exact .inl (.inr h)
       · exact .inr h1
theorem zVH(P:List Pt)(L:List (List Int))(S:List PIr)(e:PIr):∀n,e∈slE P L S n↔e∈S\/∃l,l<n/\isE P (L.getD l []) (L.getD l []).length e
  |0=>⟨.inl,λh=>h.elim id λ⟨_,h,_⟩=>absurd h (Nat.not_lt_zero _)⟩
  |n+1=>by
   unfold slE;rw[zU7,zVH P L S e n];constructor
   · rintro((h|⟨l,hl,h⟩)|h)
     · exact .inl h
     · exact .inr ⟨l,by omega,h⟩
     · exact .inr ⟨n,by omega,h⟩
   · rintro(h|⟨l,hl,h⟩)
     · exact .inl (.inl h)
     · rcases Nat.lt_succ_iff_lt_or_eq.1 hl with h1|rfl
       · exact .inl (.inr ⟨l,h1,h⟩)
       · exact .inr h
theorem zJV(s:Sd)(e:PIr):∀n,e∈sfE s n↔∃f,f<n/\∃l,l<(s.2.1.getD f zA).2.1.length/\isE s.1 ((s.2.1.getD f zA).2.1.getD l []) ((s.2.1.getD f zA).2.1.getD l []).length e
  |0=>⟨λh=>absurd h List.not_mem_nil,λ⟨_,h,_⟩=>absurd h (Nat.not_lt_zero _)⟩
  |n+1=>by
   unfold sfE;rw[zVH,zJV s e n];constructor
   · rintro(⟨f,hf,h⟩|h)
     · exact⟨f,by omega,h⟩
     · exact⟨n,by omega,h⟩
   · rintro⟨f,hf,h⟩
     rcases Nat.lt_succ_iff_lt_or_eq.1 hf with h1|rfl
     · exact .inl ⟨f,h1,h⟩
     · exact .inr h
theorem zQB{s:Sd}{f:Nat}(hf:f<s.2.1.length)(hn:nmP s f):(vT s f).length=(s.2.1.getD f zA).2.1.length/\∀l,l<(s.2.1.getD f zA).2.1.length->(gl (vT s f) l).length=((s.2.1.getD f zA).2.1.getD l []).length/\∀k,k<((s.2.1.getD f zA).2.1.getD l []).length->gp (gl (vT s f) l) k=ptI s.1 (((s.2.1.getD f zA).2.1.getD l []).getD k 0):=by
 have e:vT s f=zG6 s f (s.2.1.getD f zA).2.1.length:=by
  unfold vT;rw[if_pos ⟨⟨by omega,by omega⟩,by rw[Int.toNat_natCast];exact hn⟩,Int.toNat_natCast]
 rw[e];refine⟨yY _ _,λl C=>?_⟩;have G:gl (zG6 s f (s.2.1.getD f zA).2.1.length) l=zFK s.1 ((s.2.1.getD f zA).2.1.getD l []) ((s.2.1.getD f zA).2.1.getD l []).length:=uT _ _ C;rw[G];exact⟨yY _ _,λk D=>uT (λk=>gp s.1 (((s.2.1.getD f zA).2.1.getD l []).getD k 0).toNat) _ D⟩
theorem zYK{P:List Pt}{p v:Pt}(a b:Int):nQ p (ptI P (mmI a b).1) (ptI P (mmI a b).2) v↔nQ p (ptI P a) (ptI P b) v:=by
 unfold mmI
 by_cases h:a<=b
 · show nQ p (ptI P (min a b)) (ptI P (max a b)) v↔_
   rw[Int.min_eq_left h,Int.max_eq_right h]
 · show nQ p (ptI P (min a b)) (ptI P (max a b)) v↔_
   rw[Int.min_eq_right zot,Int.max_eq_left zot];exact⟨zND,zND⟩
theorem zR5{s:Sd}(hn:nmA s)(p v:Pt):zK8 s p v↔∀e,e∈sfE s s.2.1.length->¬nQ p (ptI s.1 e.1) (ptI s.1 e.2) v:=by
 constructor
 · intro h e O
   obtain⟨f,D,l,M,k,G,rfl,C⟩:=(zJV s e _).1 O;obtain⟨U,c2⟩:=zQB D (hn f D);obtain⟨J,H⟩:=c2 l M;rw[zYK];have:=h f D l zot k zot;rw[J,H k G,H _ (Nat.mod_lt _ zot)] at this;exact this C
 · intro h f D l M k G C
   obtain⟨U,c2⟩:=zQB D (hn f D);obtain⟨J,H⟩:=c2 l zot;rw[J] at G C ⊢;rw[H k G,H _ (Nat.mod_lt _ zot)] at C ⊢;rw[<-zYK];exact h _ ((zJV s _ _).2 ⟨f,D,l,by omega,k,G,I,C⟩)
theorem yKA{s:Sd}{e:PIr}{n:Nat}(he:e∈sfE s n):ptI s.1 e.1≠ptI s.1 e.2:=by
 obtain⟨f,H,l,D,k,G,rfl,C⟩:=(zJV s e n).1 he;generalize ((s.2.1.getD f zA).2.1.getD l []).getD k 0=a at *;generalize ((s.2.1.getD f zA).2.1.getD l []).getD ((k+1)%((s.2.1.getD f zA).2.1.getD l []).length) 0=b at *;unfold mmI
 by_cases h:a<=b
 · show ptI s.1 (min a b)≠ptI s.1 (max a b)
   rw[Int.min_eq_left h,Int.max_eq_right h];exact C
 · show ptI s.1 (min a b)≠ptI s.1 (max a b)
   rw[Int.min_eq_right zot,Int.max_eq_left zot];exact C.symm
noncomputable def zP8(s:Sd)(p:Pt):Nat:=nO λk=>zK8 s p (vK k)
theorem zG4{s:Sd}(hn:nmA s)(p:Pt):zP8 s p<=2*(sfE s s.2.1.length).length/\zK8 s p (vK (zP8 s p))/\∀j:Nat,j<zP8 s p->¬zK8 s p (vK j):=by
 obtain⟨k,D,G⟩:=zWM (λ(e:PIr) (k:Nat)=>nQ p (ptI s.1 e.1) (ptI s.1 e.2) (vK k)) (sfE s s.2.1.length) (List.range (2*(sfE s s.2.1.length).length+1)) List.nodup_range (by rw[List.length_range];omega) λe H i j k h1 h2 h3 a b c=>yK3 (yKA H) h1 h2 h3 a b c;have C:zK8 s p (vK k):=(zR5 hn p _).2 G;obtain⟨h1,h2,h3⟩:=oR (q:=λk:Nat=>zK8 s p (vK k)) C;have:=zog.1 D;exact⟨by unfold zP8;omega,h2,h3⟩
theorem zGZ{α:Type}{g:Nat->List α}:∀{n},tS g n=[]->∀i,i<n->g i=[]
  |0,_,i,h=>absurd h (Nat.not_lt_zero i)
  |n+1,e,i,h=>by
   have e':tS g n++g n=[]:=e;rw[List.append_eq_nil_iff] at e'
   rcases Nat.lt_succ_iff_lt_or_eq.1 h with h1|rfl
   · exact zGZ e'.1 i h1
   · exact e'.2
theorem zCF{s:Sd}(h:gK s):szZ s=[]/\zLK s s.1.length=[]/\plZ s=[]/\neZ s=[]/\clZ (vN s)=[]:=by
 unfold gK zZF at h
 by_cases h1:0<(szZ s).length
 · rw[if_pos h1] at h;omega
 · rw[if_neg h1] at h
   by_cases h2:0<(zLK s s.1.length).length
   · rw[if_pos h2] at h;omega
   · rw[if_neg h2] at h
     by_cases h3:0<(plZ s).length
     · rw[if_pos h3] at h;omega
     · rw[if_neg h3] at h
       by_cases h4:0<(neZ s).length
       · rw[if_pos h4] at h;omega
       · rw[if_neg h4] at h
         exact⟨zof zot,zof zot,zof zot,zof zot,zof h⟩
theorem zE6{s:Sd}(h:gK s){f:Nat}(hf:f<s.2.1.length):vfP (s.2.1.getD f zA).2.1/\nmP s f:=by
 have hz:=(zCF h).1;unfold szZ at hz
 by_cases hb:zN3 s
 · rw[if_pos hb] at hz;simp at hz
 · rw[if_neg hb] at hz
   have:=(dF (p:=szP s) _).1 hz f hf;unfold szP at this;exact⟨Classical.not_not.1 λe=>this (.inl e),Classical.not_not.1 λe=>this (.inr e)⟩
theorem cS{s:Sd}(h:gK s):nmA s:=λf hf=>(zE6 h hf).2
theorem yAX{s:Sd}(h:gK s){i k:Nat}(hi:i<s.1.length)(hk:k<s.1.length)(hne:i≠k):gp s.1 i≠gp s.1 k:=by
 have C:=(dF (p:=twP s) _).1 (zCF h).2.1;intro e
 rcases Nat.lt_or_gt_of_ne hne with h1|h1
 · exact C k hk ⟨i,h1,e.symm⟩
 · exact C i hi ⟨k,h1,e⟩
theorem zLO{s:Sd}(h:gK s):yD0 s:=by
 have G:=(zCF h).2.2.1;unfold plZ at G
 by_cases hz:0<(zSI s s.2.1.length).length
 · rw[if_pos hz] at G;rw[G] at hz;exact absurd hz zow
 · rw[if_neg hz] at G
   have O:=(dF (p:=zrP s) _).1 (zof (Nat.le_zero.1 (Nat.not_lt.1 hz)));intro f M;obtain⟨hv,U⟩:=zE6 h M;obtain⟨c1,c2⟩:=zQB M U;refine⟨O f M,λl hl k J=>⟨?_,?_⟩⟩
   · have o1:=zGZ (zGZ G f M) l hl
     have o2:=(dF (p:=ofP s f l) _).1 o1 k J;have Z:=Classical.not_not.1 o2;unfold sdZ hgt at Z;have:=uS.1 Z;grind
   · have C:l<(s.2.1.getD f zA).2.1.length:=by omega
     obtain⟨c3,c4⟩:=c2 l C;rw[c3] at J ⊢;have D:=hv.2 l C;have H:(k+1)%((s.2.1.getD f zA).2.1.getD l []).length<((s.2.1.getD f zA).2.1.getD l []).length:=Nat.mod_lt _ zot;rw[c4 k J,c4 _ H];have n1:=U l C k J;have n2:=U l C _ H;have aa:((s.2.1.getD f zA).2.1.getD l []).getD k 0≠((s.2.1.getD f zA).2.1.getD l []).getD ((k+1)%((s.2.1.getD f zA).2.1.getD l []).length) 0:=by
      generalize ((s.2.1.getD f zA).2.1.getD l [])=x at *;have h3:=D.1.1
      rcases Nat.lt_or_ge (k+1) x.length with h4|h4
      · rw[zoh h4]
        exactλe=>(D.2 (k+1) h4).2 k zot e.symm
      · have e0:k+1=x.length:=by omega
        rw[e0,Nat.mod_self];exact(D.2 k J).2 0 zot
     exact yAX h zot zot zot
variable {a b p d:Pt}
theorem yIQ{f:Nat}(hf:f<6):cnF (bxS a b) d f=if f%2=1 then d.at (f/2) else-d.at (f/2):=by
 unfold cnF;have e:((bxS a b).2.1.getD f zA).1.1=dN (gD f) 1:=congrArg Prod.fst (dX (a:=a) (b:=b) hf).2;rw[e];have:f=0\/f=1\/f=2\/f=3\/f=4\/f=5:=by omega
 rcases this with rfl|rfl|rfl|rfl|rfl|rfl<;>(simp[gD,dN,T3.set,xH,T3.at];try grind)
theorem yHV{f:Nat}(hf:f<6):hnF (bxS a b) p f=if f%2=1 then b.at (f/2)-p.at (f/2) else p.at (f/2)-a.at (f/2):=by
 unfold hnF;have e:((bxS a b).2.1.getD f zA).1=plD a b (gD f):=(dX (a:=a) (b:=b) hf).2;rw[e];have:f=0\/f=1\/f=2\/f=3\/f=4\/f=5:=by omega
 rcases this with rfl|rfl|rfl|rfl|rfl|rfl<;>(simp[gD,plD,dN,T3.set,xH,T3.at];try grind)
theorem yEQ(h:∀i,a.at i<b.at i){u s:Nat}(hu:u<3)(hs:s<2)(q:Pt):
 (whF (bxS a b) (2*u+s) q=0↔(kI a b q ((u+1)%3)/\kI a b q ((u+2)%3))/\¬(sI a b q ((u+1)%3)/\sI a b q ((u+2)%3)))/\(whF (bxS a b) (2*u+s) q=1↔sI a b q ((u+1)%3)/\sI a b q ((u+2)%3)):=by
 have G:∀v,sI a b q v->kI a b q v:=λv e=>⟨Rat.le_of_lt e.1,Rat.le_of_lt e.2⟩;have C:∀v w,whF (bxS a b) (2*u+s) q=(if(kI a b q v/\kI a b q w)/\¬(sI a b q v/\sI a b q w) then 0 else if sI a b q v/\sI a b q w then 1 else -1)->
  (whF (bxS a b) (2*u+s) q=0↔(kI a b q v/\kI a b q w)/\¬(sI a b q v/\sI a b q w))/\(whF (bxS a b) (2*u+s) q=1↔sI a b q v/\sI a b q w):=λv w e=>by
  rw[e]
  by_cases h1:(kI a b q v/\kI a b q w)/\¬(sI a b q v/\sI a b q w)
  · rw[if_pos h1]
    exact⟨⟨λ_=>h1,λ_=>I⟩,λe=>absurd e zow,λe=>absurd e h1.2⟩
  · rw[if_neg h1]
    by_cases h2:sI a b q v/\sI a b q w
    · rw[if_pos h2]
      exact⟨⟨λe=>absurd e zow,λe=>absurd e h1⟩,λ_=>h2,λ_=>I⟩
    · rw[if_neg h2]
      exact⟨⟨λe=>absurd e zow,λe=>absurd e h1⟩,λe=>absurd e zow,λe=>absurd e h2⟩
 have e:=yDH h (f:=2*u+s) zot q;have D:∀v w,((kI a b q v/\kI a b q w)/\¬(sI a b q v/\sI a b q w))=((kI a b q w/\kI a b q v)/\¬(sI a b q w/\sI a b q v))/\(sI a b q v/\sI a b q w)=(sI a b q w/\sI a b q v):=λv w=>by
  constructor<;>(apply propext;constructor<;>grind)
 have:(u=0\/u=1\/u=2)/\(s=0\/s=1):=by omega
 rcases this with⟨rfl|rfl|rfl,rfl|rfl⟩
 · have k:=C 2 1 e;rw[(D 2 1).1,(D 2 1).2] at k;exact k
 · exact C 1 2 e
 · have k:=C 0 2 e;rw[(D 0 2).1,(D 0 2).2] at k;exact k
 · exact C 2 0 e
 · have k:=C 1 0 e;rw[(D 1 0).1,(D 1 0).2] at k;exact k
 · exact C 0 1 e
theorem t7(t:Rat):∀u,(bM p d t).at u=p.at u+t*d.at u
  |0=>rfl
  |1=>rfl
  |_+2=>rfl
theorem pG{x l t:Rat}(hx:0<x):l*x<t*x↔l<t:=by
 constructor
 · intro h
   refine Rat.not_le.1 λe=>?_;have:0<=(l-t)*x:=zod zo1 (Rat.le_of_lt hx);grind
 · intro h
   have:=kP (show 0<t-l by grind) hx;grind
theorem oK{x l t:Rat}(hx:0<x):l*x<=t*x↔l<=t:=by
 rw[<-Rat.not_lt,<-Rat.not_lt,pG hx]
structure Ax(a b p d:Pt)(M:Rat)(u:Nat)(l h:Rat):Prop where
 lt:l<h
 z:d.at u=0->l= -M/\h=M
 n:d.at u≠0->(-M<l/\l<M)/\-M<h/\h<M
 s:∀t,-M<t->t<M->(sI a b (bM p d t) u↔l<t/\t<h)
 k:∀t,-M<t->t<M->(kI a b (bM p d t) u↔l<=t/\t<=h)
 pos:0<d.at u->l*d.at u=a.at u-p.at u/\h*d.at u=b.at u-p.at u
 neg:d.at u<0->l*d.at u=b.at u-p.at u/\h*d.at u=a.at u-p.at u
theorem yJE{M:Rat}{u:Nat}(hab:a.at u<b.at u)(hd:0<d.at u){l h:Rat}(hl:l*d.at u=a.at u-p.at u)(hh:h*d.at u=b.at u-p.at u)(hM:(-M<l/\l<M)/\-M<h/\h<M):Ax a b p d M u l h:=by
 refine⟨?_,λe=>by grind,λ_=>hM,λt _ _=>?_,λt _ _=>?_,λ_=>⟨hl,hh⟩,λe=>by grind⟩
 · rw[<-pG hd];grind
 · unfold sI;rw[t7,<-pG (l:=l) hd,<-pG (l:=t) hd];constructor<;>intro h<;>constructor<;>grind
 · unfold kI;rw[t7,<-oK (l:=l) hd,<-oK (l:=t) hd];constructor<;>intro h<;>constructor<;>grind
theorem yJF{M:Rat}{u:Nat}(hab:a.at u<b.at u)(hd:d.at u<0){l h:Rat}(hl:l*d.at u=b.at u-p.at u)(hh:h*d.at u=a.at u-p.at u)(hM:(-M<l/\l<M)/\-M<h/\h<M):Ax a b p d M u l h:=by
 have C:0< -d.at u:=by grind
 refine⟨?_,λe=>by grind,λ_=>hM,λt _ _=>?_,λt _ _=>?_,λe=>by grind,λ_=>⟨hl,hh⟩⟩
 · rw[<-pG C];grind
 · unfold sI;rw[t7,<-pG (l:=l) C,<-pG (l:=t) C];constructor<;>intro h<;>constructor<;>grind
 · unfold kI;rw[t7,<-oK (l:=l) C,<-oK (l:=t) C];constructor<;>intro h<;>constructor<;>grind
theorem zZZ{M:Rat}{u:Nat}(hM:0<M)(hd:d.at u=0)(hs:sI a b p u):Ax a b p d M u (-M) M:=by
 have e:∀t,(bM p d t).at u=p.at u:=λt=>by rw[t7,hd];grind
 refine⟨by grind,λ_=>⟨I,I⟩,λh=>absurd hd h,λt h1 h2=>?_,λt h1 h2=>?_,λh=>by grind,λh=>by grind⟩
 · unfold sI at *;rw[e];exact⟨λ_=>⟨h1,h2⟩,λ_=>hs⟩
 · unfold kI;unfold sI at hs;rw[e];exact⟨λ_=>⟨Rat.le_of_lt h1,Rat.le_of_lt h2⟩,λ_=>⟨Rat.le_of_lt hs.1,Rat.le_of_lt hs.2⟩⟩
theorem yLG{s:Sd}{f:Nat}{t:Rat}(hc:cnF s d f≠0)(ht:hnF s p f=t*cnF s d f):(skP s p d f↔¬0<t)/\hnF s p f/cnF s d f=t:=by
 refine⟨?_,?_⟩
 · unfold skP
   rw[j7,ht];generalize cnF s d f=c at *;refine not_congr ⟨?_,λh0=>?_⟩
   · rintro(⟨h1,h2⟩|⟨h1,h2⟩)
     · refine Rat.not_le.1 λe=>?_
       have:0<=(-t)*c:=zod zo1 (Rat.le_of_lt h1);grind
     · refine Rat.not_le.1 λe=>?_
       have:0<=(-t)*(-c):=zod zo1 zo1;grind
   · by_cases h1:0<c
     · exact .inl ⟨h1,kP h0 h1⟩
     · have:=kP h0 (show 0< -c by grind)
       exact .inr ⟨by grind,by grind⟩
 · rw[ht]
   generalize cnF s d f=c at *;grind
theorem zBZ(hab:∀i,a.at i<b.at i){M:Rat}{u s:Nat}(hu:u<3)(hs:s<2){t lv hv lw hw:Rat}(V:Ax a b p d M ((u+1)%3) lv hv)(W:Ax a b p d M ((u+2)%3) lw hw)(h1:-M<t)(h2:t<M)
    (hc:cnF (bxS a b) d (2*u+s)≠0)(ht:hnF (bxS a b) p (2*u+s)=t*cnF (bxS a b) d (2*u+s)):
    crE (bxS a b) p d (2*u+s)=(if 0<cnF (bxS a b) d (2*u+s) then 1 else -1)*cW (exI t lv hv lw hw)/\((¬skP (bxS a b) p d (2*u+s)->whF (bxS a b) (2*u+s) (bM p d (hnF (bxS a b) p (2*u+s)/cnF (bxS a b) d (2*u+s)))≠0)->iI t lv hv lw hw):=by
 obtain⟨D,G⟩:=yLG hc ht;obtain⟨w0,C⟩:=yEQ hab hu hs (bM p d t);rw[V.s t h1 h2,W.s t h1 h2] at w0 C;rw[V.k t h1 h2,W.k t h1 h2] at w0;refine⟨?_,?_⟩
 · unfold crE
   rw[G]
   by_cases h0:0<t
   · rw[if_neg λe=>D.1 e h0]
     by_cases hw1:(lv<t/\t<hv)/\lw<t/\t<hw
     · rw[if_pos (C.2 hw1),lD (show exI t lv hv lw hw from⟨h0,hw1⟩),Int.mul_one]
     · rw[if_neg λe=>hw1 (C.1 e),kG (show ¬exI t lv hv lw hw fromλe=>hw1 e.2),Int.mul_zero]
   · rw[if_pos (D.2 h0),kG (show ¬exI t lv hv lw hw fromλe=>h0 e.1),Int.mul_zero]
 · intro H h0 J c2
   rw[G] at H;exact Classical.not_not.1 λe=>H (λk=>D.1 k h0) (w0.2 ⟨⟨J,c2⟩,e⟩)
theorem yIB{M t lv hv lw hw:Rat}{v w:Nat}(V:Ax a b p d M v lv hv):¬exI M lv hv lw hw:=λe=>by
 by_cases h:d.at v=0
 · have:=(V.z h).2;unfold exI at e;grind
 · have:=(V.n h).2.2;unfold exI at e;grind
theorem zHG(hab:∀i,a.at i<b.at i){M:Rat}(hM:0<M){u:Nat}(hu:u<3){l h lv hv lw hw:Rat}(U:Ax a b p d M u l h)(V:Ax a b p d M ((u+1)%3) lv hv)(W:Ax a b p d M ((u+2)%3) lw hw)
    (hz:d.at u=0->d.at ((u+1)%3)≠0\/d.at ((u+2)%3)≠0)(hb:∀f,f<6->¬skP (bxS a b) p d f->whF (bxS a b) f (bM p d (hnF (bxS a b) p f/cnF (bxS a b) d f))≠0):
    crE (bxS a b) p d (2*u)+crE (bxS a b) p d (2*u+1)=cW (exI h lv hv lw hw)-cW (enI l lv hv lw hw)/\iI h lv hv lw hw/\iI l lv hv lw hw:=by
 have G:cnF (bxS a b) d (2*u+0)= -d.at u:=by rw[yIQ zot,if_neg zot,show(2*u+0)/2=u by omega]
 have D:cnF (bxS a b) d (2*u+1)=d.at u:=by rw[yIQ zot,if_pos zot,show(2*u+1)/2=u by omega]
 have n0:hnF (bxS a b) p (2*u+0)=p.at u-a.at u:=by rw[yHV zot,if_neg zot,show(2*u+0)/2=u by omega]
 have n1:hnF (bxS a b) p (2*u+1)=b.at u-p.at u:=by rw[yHV zot,if_pos zot,show(2*u+1)/2=u by omega]
 by_cases hd:d.at u=0
 · obtain⟨el,eh⟩:=U.z hd
   have O:crE (bxS a b) p d (2*u+0)=0:=by
    unfold crE;refine if_pos ?_;unfold skP;rw[j7,G,hd];grind
   have z1:crE (bxS a b) p d (2*u+1)=0:=by
    unfold crE;refine if_pos ?_;unfold skP;rw[j7,D,hd];grind
   have x1:¬exI h lv hv lw hw:=by rw[eh];exact yIB (t:=M) (w:=0) V
   have x2:¬enI l lv hv lw hw:=λe=>by unfold enI at e;grind
   refine⟨?_,?_,λe=>by grind⟩
   · rw[Nat.add_zero] at O
     rw[O,z1,kG x1,kG x2];rfl
   · intro _ e2 e3
     rcases hz hd with k|k
     · have:=(V.n k).2.2;grind
     · have:=(W.n k).2.2;grind
 · obtain⟨⟨m1,m2⟩,m3,m4⟩:=U.n hd
   by_cases hp:0<d.at u
   · obtain⟨q1,Z⟩:=U.pos hp
     obtain⟨r1,H⟩:=zBZ hab hu (s:=1) zow V W m3 m4 (by rw[D];exact hd) (by rw[n1,D,Z]);obtain⟨C,J⟩:=zBZ hab hu (s:=0) zow V W m1 m2 (by rw[G];grind) (by rw[n0,G];grind);refine⟨?_,H (hb _ zot),J (hb _ zot)⟩;rw[D,if_pos hp] at r1;rw[G,if_neg zo1] at C;rw[Nat.add_zero] at C;rw[C,r1]
     show -1*cW (exI l lv hv lw hw)+_=_-cW (exI l lv hv lw hw)
     omega
   · obtain⟨q1,Z⟩:=U.neg zo1
     obtain⟨r1,H⟩:=zBZ hab hu (s:=1) zow V W m1 m2 (by rw[D];exact hd) (by rw[n1,D,q1]);obtain⟨C,J⟩:=zBZ hab hu (s:=0) zow V W m3 m4 (by rw[G];grind) (by rw[n0,G];grind);refine⟨?_,J (hb _ zot),H (hb _ zot)⟩;rw[D,if_neg hp] at r1;rw[G,if_pos zo1] at C;rw[Nat.add_zero] at C;rw[C,r1]
     show _+-1*cW (exI l lv hv lw hw)=_-cW (exI l lv hv lw hw)
     omega
end Bk
